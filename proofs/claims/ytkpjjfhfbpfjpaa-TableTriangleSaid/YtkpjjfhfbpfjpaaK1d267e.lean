import Derived.Test.YtkpjjfhfbpfjpaaK5cc749
import Derived.Test.YtkpjjfhfbpfjpaaK49244f
import Derived.Test.YtkpjjfhfbpfjpaaK28e421
set_option linter.unusedVariables false
set_option linter.unusedSimpArgs false
set_option maxRecDepth 100000
set_option maxHeartbeats 8000000
namespace Go.Proofs.Ytkpjjfhfbpfjpaa
open Go.RowKit
theorem Zbl {P:Program} {ops:Array Oper} {Q:Exit→Act→World→Prop} {md:Region.Mode} {S:World→Prop} {d i j k:Nat} {oi oj ok:Oper} {n:Nat} {listed Li Lj Lk:Array Bool} {a:Act} {w:World} (hi:ops[i]?=some oi) (hj:ops[j]?=some oj) (hk:ops[k]?=some ok) (hLi:listed.setIfInBounds i true=Li) (hLj:listed.setIfInBounds j true=Lj) (hLk:listed.setIfInBounds k true=Lk) (hr:Region.ready md ops listed=[i,j,k])
  (h1:∀ K:Act→World→Prop,(∀ a' w',(i≠d→S w')→AnyU P md ops Q S d n Li a' w'→K a' w')→if Region.wanted oi (yielded ops a.tmps)=true then Oper.wp P oi a w K Q else K (a.put oi.dst undef) w)
  (h2:∀ K:Act→World→Prop,(∀ a' w',(j≠d→S w')→AnyU P md ops Q S d n Lj a' w'→K a' w')→if Region.wanted oj (yielded ops a.tmps)=true then Oper.wp P oj a w K Q else K (a.put oj.dst undef) w)
  (h3:∀ K:Act→World→Prop,(∀ a' w',(k≠d→S w')→AnyU P md ops Q S d n Lk a' w'→K a' w')→if Region.wanted ok (yielded ops a.tmps)=true then Oper.wp P ok a w K Q else K (a.put ok.dst undef) w) :
  AnyU P md ops Q S d (n+1) listed a w:=by
 refine⟨(fun h0=>by rw [hr] at h0;cases h0),fun q hq=>?_⟩;rw [hr] at hq;rcases List.mem_cons.1 hq with e | hq
 · subst e;rw [hLi];exact wpOp_step hi (fun K hK=>h1 K fun a' w' g1 g2=>hK a' w' ⟨g1,g2⟩)
 rcases List.mem_cons.1 hq with e | hq
 · subst e;rw [hLj];exact wpOp_step hj (fun K hK=>h2 K fun a' w' g1 g2=>hK a' w' ⟨g1,g2⟩)
 · have e:=List.mem_singleton.1 hq;subst e;rw [hLk];exact wpOp_step hk (fun K hK=>h3 K fun a' w' g1 g2=>hK a' w' ⟨g1,g2⟩)
abbrev zBx:Obj:=.cells #[.slice none 0 0] 56 (0,0)
abbrev bBx (gt n c:Nat):Obj:=.cells #[.slice (some ⟨gt,0,none⟩) n c] 56 (0,0)
section
variable {w W W':World} {g p:Nat}
structure Gx (w W:World) (g:Nat):Prop where
 gr:w.grownBy W (some g)
 cs:CaseOk W g
theorem Gx.alloc (h:Gx w W g) (o:Obj):Gx w (W.alloc o) g:=⟨h.gr.trans (World.grownBy_alloc W o _),h.cs.keep (fun b hb=>Below.heap_alloc _ _ _ (by have:=h.cs.lt;omega))⟩
theorem gx_set {k:Nat} {v:Value} (h:Gx w W g) (hp:w.heap.size≤p) (hg:g<w.heap.size):Gx w (W.setCell ⟨p,k,none⟩ v) g:=by
 have hne:∀ b,b≠p→(W.setCell ⟨p,k,none⟩ v).heap[b]?=W.heap[b]?:=fun b hb=>Below.heap_setCell W ⟨p,k,none⟩ v b hb;have h1:=h.gr;exact⟨⟨h1.os,h1.tape,h1.output,by simpa using h1.size,fun b hb hne'=>(hne b (by omega)).trans (h1.block b hb hne')⟩,h.cs.keep (fun b hb=>hne b (by omega))⟩
theorem bx_keep {o:Obj} (h:W.heap[p]?=some o) (hg:W.grownBy W' (some g)) (hp:p≠g):W'.heap[p]?=some o:=(hg.block p (Zad h) (fun e=>by injection e with e;exact hp e)).trans h
structure Sx (w W:World) (g:Nat) (s:Sch) (m:Int) (lo hi gt:Nat) (st:St):Prop where
 sz:w.heap.size≤W.heap.size
 lo_le:w.heap.size≤lo
 hi_le:hi≤W.heap.size
 ok:StOk s m st
 few:∀ j,(st.getD j []).length≤4
 st:StS W (fun b=>(g<b∧b<w.heap.size)∨(lo≤b∧b<hi)) (some ⟨gt,0,none⟩) st
theorem Sx.keep {s:Sch} {m:Int} {lo hi gt:Nat} {st:St} (h:Sx w W g s m lo hi gt st) (hg:W.grownBy W' (some g)) (hgw:g<w.heap.size):Sx w W' g s m lo hi gt st:=by
 have h1:=h.sz;have h2:=h.lo_le;have h3:=h.hi_le;have h4:=hg.size;refine⟨by omega,h2,by omega,h.ok,h.few,h.st.keep (fun b hb=>hg.block b ?_ (fun e=>?_))⟩
 · rcases hb with hb | hb<;>omega
 · injection e with e;rcases hb with hb | hb<;>omega
theorem ZaN {A0:Option Addr} {c0':Nat} {s:Sch} {m:Int} (hs:TabS w (Rng g w) A0 s.tabs) (hgw:g<w.heap.size) (hgs:GenS s) (hm:Zcm m=true) (hG:Gx w W g) :
  Calls Try.prog 22 #[.pointer (some ⟨g,0,none⟩),sAgg s.version A0 s.tabs.length c0',.int .i64 m] W (fun e W'=>∃ gt st,e=.returned (Zay (some ⟨gt,0,none⟩) st.length st.length)∧Sx w W' g s m W.heap.size W'.heap.size gt st∧Gx w W' g∧W.grownBy W' (some g)):=by
 have hz:=hG.gr.size;refine(state_any g A0 c0' s m (Rng g w) W (hs.keep (fun b hb=>hG.gr.block b hb.2 (fun e=>by injection e with e;have:=hb.1;omega))) (fun b hb=>⟨by have:=hb.2;omega,by have:=hb.1;omega⟩) hgs hm hG.cs).mono ?_;rintro e W' ⟨gt,st,rfl,hso,hs4,hgt,hstc,hc,hg⟩;have hz2:=hg.size;exact⟨gt,st,rfl,⟨by omega,hz,Nat.le_refl _,hso,hs4,hstc.slice (by have h8:=hso.1;have:=hgs.len;omega) (fun b hb=>hb.imp id (fun h=>⟨by have:=h.1;omega,h.2⟩)) (Or.inr ⟨hgt,hstc.lt⟩)⟩,⟨hG.gr.trans hg,hc⟩,hg⟩
end
theorem Zfp {P:Program} {ops:Array Oper} {Q:Exit→Act→World→Prop} {md:Region.Mode} {S:World→Prop} {d i j k m:Nat} {oi oj ok om:Oper} {n:Nat} {listed Li Lj Lk Lm:Array Bool} {a:Act} {w:World} (hi:ops[i]?=some oi) (hj:ops[j]?=some oj) (hk:ops[k]?=some ok) (hm:ops[m]?=some om) (hLi:listed.setIfInBounds i true=Li) (hLj:listed.setIfInBounds j true=Lj) (hLk:listed.setIfInBounds k true=Lk) (hLm:listed.setIfInBounds m true=Lm) (hr:Region.ready md ops listed=[i,j,k,m])
  (h1:∀ K:Act→World→Prop,(∀ a' w',(i≠d→S w')→AnyU P md ops Q S d n Li a' w'→K a' w')→if Region.wanted oi (yielded ops a.tmps)=true then Oper.wp P oi a w K Q else K (a.put oi.dst undef) w)
  (h2:∀ K:Act→World→Prop,(∀ a' w',(j≠d→S w')→AnyU P md ops Q S d n Lj a' w'→K a' w')→if Region.wanted oj (yielded ops a.tmps)=true then Oper.wp P oj a w K Q else K (a.put oj.dst undef) w)
  (h3:∀ K:Act→World→Prop,(∀ a' w',(k≠d→S w')→AnyU P md ops Q S d n Lk a' w'→K a' w')→if Region.wanted ok (yielded ops a.tmps)=true then Oper.wp P ok a w K Q else K (a.put ok.dst undef) w)
  (h4:∀ K:Act→World→Prop,(∀ a' w',(m≠d→S w')→AnyU P md ops Q S d n Lm a' w'→K a' w')→if Region.wanted om (yielded ops a.tmps)=true then Oper.wp P om a w K Q else K (a.put om.dst undef) w) :
  AnyU P md ops Q S d (n+1) listed a w:=by
 refine⟨(fun h0=>by rw [hr] at h0;cases h0),fun q hq=>?_⟩;rw [hr] at hq;rcases List.mem_cons.1 hq with e | hq
 · subst e;rw [hLi];exact wpOp_step hi (fun K hK=>h1 K fun a' w' g1 g2=>hK a' w' ⟨g1,g2⟩)
 rcases List.mem_cons.1 hq with e | hq
 · subst e;rw [hLj];exact wpOp_step hj (fun K hK=>h2 K fun a' w' g1 g2=>hK a' w' ⟨g1,g2⟩)
 rcases List.mem_cons.1 hq with e | hq
 · subst e;rw [hLk];exact wpOp_step hk (fun K hK=>h3 K fun a' w' g1 g2=>hK a' w' ⟨g1,g2⟩)
 · have e:=List.mem_singleton.1 hq;subst e;rw [hLm];exact wpOp_step hm (fun K hK=>h4 K fun a' w' g1 g2=>hK a' w' ⟨g1,g2⟩)
structure Made where
 lo:Nat
 hi:Nat
 gt:Nat
 st:St
structure Way (w W:World) (g:Nat) (s:Sch) (m:Int) (sb:Nat) (so:Obj) (B:List (Option Nat)) (T:List Made):Prop where
 gx:Gx w W g
 sbx:W.heap[sb]?=some so
 box:∀ p,some p ∈ B→w.heap.size≤p∧W.heap[p]?=some zBx
 ne:B.Pairwise (fun a b=>a=b→a=none)
 made:∀ x ∈ T,Sx w W g s m x.lo x.hi x.gt x.st
 sep:∀ p,some p ∈ B→∀ x ∈ T,p<x.lo∨x.hi≤p
section
variable {w W W':World} {g sb:Nat} {s:Sch} {m:Int} {so:Obj} {B:List (Option Nat)} {T:List Made}
theorem Way.step (h:Way w W g s m sb so B T) (hg:W.grownBy W' (some g)) (hgx:Gx w W' g) (hsb:sb≠g) (hgw:g<w.heap.size):Way w W' g s m sb so B T :=
 ⟨hgx,bx_keep h.sbx hg hsb,fun p hp=>⟨(h.box p hp).1,bx_keep (h.box p hp).2 hg (by have:=(h.box p hp).1;omega)⟩,h.ne,fun x hx=>(h.made x hx).keep hg hgw,h.sep⟩
theorem Way.call (h:Way w W g s m sb so B T) {gt:Nat} {st:St} (hx:Sx w W' g s m W.heap.size W'.heap.size gt st) (hgx:Gx w W' g) (hg:W.grownBy W' (some g)) (hsb:sb≠g) (hgw:g<w.heap.size):Way w W' g s m sb so B (T++[⟨W.heap.size,W'.heap.size,gt,st⟩]):=by
 have h1:=h.step hg hgx hsb hgw;refine⟨h1.gx,h1.sbx,h1.box,h1.ne,fun x hx'=>?_,fun p hp x hx'=>?_⟩
 · rcases List.mem_append.1 hx' with hx' | hx'
   · exact h1.made x hx'
   · rw [List.mem_singleton.1 hx'];exact hx
 · rcases List.mem_append.1 hx' with hx' | hx'
   · exact h1.sep p hp x hx'
   · rw [List.mem_singleton.1 hx'];exact .inl (Zad (h.box p hp).2)
theorem Way.alloc {B1 B2:List (Option Nat)} (h:Way w W g s m sb so (B1++none :: B2) T) (hsb:sb≠g) (hgw:g<w.heap.size):Way w (W.alloc (.cells #[.slice none 0 0] 56)) g s m sb so (B1++some W.heap.size :: B2) T:=by
 have hz:=h.gx.gr.size;have h1:=h.step (World.grownBy_alloc W (.cells #[.slice none 0 0] 56) (some g)) (h.gx.alloc _) hsb hgw
 have hold:∀ p,some p ∈ B1++some W.heap.size :: B2→p=W.heap.size∨some p ∈ B1++none :: B2:=fun p hp=>by
  rcases List.mem_append.1 hp with hp | hp
  · exact .inr (List.mem_append_left _ hp)
  · rcases List.mem_cons.1 hp with hp | hp
    · injection hp with hp;exact .inl hp
    · exact .inr (List.mem_append_right _ (List.mem_cons_of_mem _ hp))
 have hlt:∀ p,some p ∈ B1++none :: B2→p<W.heap.size:=fun p hp=>Zad (h.box p hp).2;refine⟨h1.gx,h1.sbx,fun p hp=>?_,?_,h1.made,fun p hp x hx=>?_⟩
 · rcases hold p hp with rfl | hp
   · exact⟨hz,heap_alloc_new W _⟩
   · exact h1.box p hp
 · have h2:=List.pairwise_append.1 h.ne;have h3:=List.pairwise_cons.1 h2.2.1;refine List.pairwise_append.2 ⟨h2.1,List.pairwise_cons.2 ⟨fun b hb e=>?_,h3.2⟩,fun a ha b hb e=>?_⟩
   · subst e;have:=hlt _ (List.mem_append_right _ (List.mem_cons_of_mem _ hb));omega
   · rcases List.mem_cons.1 hb with hb | hb
     · subst hb;subst e;have:=hlt _ (List.mem_append_left _ ha);omega
     · exact h2.2.2 a ha b (List.mem_cons_of_mem _ hb) e
 · rcases hold p hp with rfl | hp
   · exact .inr (h.made x hx).hi_le
   · exact h.sep p hp x hx
structure Three (w W:World) (g:Nat) (s:Sch) (m:Int) (sb:Nat) (so:Obj) (p6 p7 p8:Nat) (g1:Nat) (a:St) (g2:Nat) (b:St) (g3:Nat) (c:St):Prop where
 gr:w.grownBy W (some g)
 cs:CaseOk W g
 sbx:W.heap[sb]?=some so
 b6:W.heap[p6]?=some (bBx g1 a.length a.length)
 b7:W.heap[p7]?=some (bBx g2 b.length b.length)
 b8:W.heap[p8]?=some (bBx g3 c.length c.length)
 n6:w.heap.size≤p6
 n7:w.heap.size≤p7
 n8:w.heap.size≤p8
 oka:StOk s m a
 okb:StOk s m b
 okc:StOk s m c
 ca:Zak a≤16
 cb:Zak b≤16
 cc:Zak c≤16
 sa:StS W (LtG W g) (some ⟨g1,0,none⟩) a
 sb':StS W (LtG W g) (some ⟨g2,0,none⟩) b
 sc:StS W (LtG W g) (some ⟨g3,0,none⟩) c
theorem Way.boxes {p6 p7 p8:Nat} (h:Way w W g s m sb so [some p6,some p7,some p8] T) (hsbw:sb<w.heap.size):w.heap.size≤p6∧w.heap.size≤p7∧w.heap.size≤p8∧p6≠p7∧p6≠p8∧p7≠p8∧W.heap[p6]?=some zBx∧W.heap[p7]?=some zBx∧W.heap[p8]?=some zBx∧sb≠p6∧sb≠p7∧sb≠p8:=by
 have h6:=h.box p6 (by simp);have h7:=h.box p7 (by simp);have h8:=h.box p8 (by simp);have hn:=h.ne;simp only [List.pairwise_cons,List.mem_cons,List.not_mem_nil,or_false,forall_eq_or_imp,forall_eq,reduceCtorEq,imp_false,Option.some.injEq] at hn;refine⟨h6.1,h7.1,h8.1,hn.1.1,hn.1.2,hn.2.1,h6.2,h7.2,h8.2,by omega,by omega,by omega⟩
theorem Way.done {p6 p7 p8:Nat} {x y z:Made} (hgs:GenS s) (h:Way w W g s m sb so [some p6,some p7,some p8] [x,y,z]) (hsbw:sb<w.heap.size) (hgw:g<w.heap.size) :
  Three w (((W.setCell ⟨p6,0,none⟩ (.slice (some ⟨x.gt,0,none⟩) x.st.length x.st.length)).setCell ⟨p7,0,none⟩ (.slice (some ⟨y.gt,0,none⟩) y.st.length y.st.length)).setCell ⟨p8,0,none⟩ (.slice (some ⟨z.gt,0,none⟩) z.st.length z.st.length)) g s m sb so p6 p7 p8 x.gt x.st y.gt y.st z.gt z.st:=by
 obtain⟨n6,n7,n8,n67,n68,n78,b6,b7,b8,s6,s7,s8⟩:=h.boxes hsbw;have S1:=h.made x (by simp);have S2:=h.made y (by simp);have S3:=h.made z (by simp);have hk:∀ q,q≠p6→q≠p7→q≠p8→(((W.setCell ⟨p6,0,none⟩ (.slice (some ⟨x.gt,0,none⟩) x.st.length x.st.length)).setCell ⟨p7,0,none⟩ (.slice (some ⟨y.gt,0,none⟩) y.st.length y.st.length)).setCell ⟨p8,0,none⟩ (.slice (some ⟨z.gt,0,none⟩) z.st.length z.st.length)).heap[q]?=W.heap[q]?:=fun q h1 h2 h3=>(Below.heap_setCell _ ⟨p8,0,none⟩ _ q h3).trans ((Below.heap_setCell _ ⟨p7,0,none⟩ _ q h2).trans (Below.heap_setCell _ ⟨p6,0,none⟩ _ q h1));have hsz:(((W.setCell ⟨p6,0,none⟩ (.slice (some ⟨x.gt,0,none⟩) x.st.length x.st.length)).setCell ⟨p7,0,none⟩ (.slice (some ⟨y.gt,0,none⟩) y.st.length y.st.length)).setCell ⟨p8,0,none⟩ (.slice (some ⟨z.gt,0,none⟩) z.st.length z.st.length)).heap.size=W.heap.size:=(by simp);have hl:=hgs.len;have hc:∀ {q:Made},Sx w W g s m q.lo q.hi q.gt q.st→Zak q.st≤16:=(fun {q} h1=>by have h9:=ZgT q.st 4 h1.few;have:=h1.ok.1;omega);have hG:=gx_set (v:=.slice (some ⟨z.gt,0,none⟩) z.st.length z.st.length) (k:=0) (gx_set (v:=.slice (some ⟨y.gt,0,none⟩) y.st.length y.st.length) (k:=0) (gx_set (v:=.slice (some ⟨x.gt,0,none⟩) x.st.length x.st.length) (k:=0) h.gx n6 hgw) n7 hgw) n8 hgw
 have hS:∀ {q:Made},q ∈ [x,y,z]→StS (((W.setCell ⟨p6,0,none⟩ (.slice (some ⟨x.gt,0,none⟩) x.st.length x.st.length)).setCell ⟨p7,0,none⟩ (.slice (some ⟨y.gt,0,none⟩) y.st.length y.st.length)).setCell ⟨p8,0,none⟩ (.slice (some ⟨z.gt,0,none⟩) z.st.length z.st.length)) (LtG (((W.setCell ⟨p6,0,none⟩ (.slice (some ⟨x.gt,0,none⟩) x.st.length x.st.length)).setCell ⟨p7,0,none⟩ (.slice (some ⟨y.gt,0,none⟩) y.st.length y.st.length)).setCell ⟨p8,0,none⟩ (.slice (some ⟨z.gt,0,none⟩) z.st.length z.st.length)) g) (some ⟨q.gt,0,none⟩) q.st:=fun {q} hq=>by
  have h1:=h.made q hq;have e6:=h.sep p6 (by simp) q hq;have e7:=h.sep p7 (by simp) q hq;have e8:=h.sep p8 (by simp) q hq;have e1:=h1.sz;have e2:=h1.lo_le;have e3:=h1.hi_le;refine(h1.st.keep (fun t ht=>hk t ?_ ?_ ?_)).more (fun t ht=>⟨?_,?_⟩)
  · rcases ht with ht | ht<;>omega
  · rcases ht with ht | ht<;>omega
  · rcases ht with ht | ht<;>omega
  · rw [hsz];rcases ht with ht | ht<;>omega
  · rcases ht with ht | ht<;>omega
 exact⟨hG.gr,hG.cs,(hk sb s6 s7 s8).trans h.sbx,(Below.heap_setCell _ ⟨p8,0,none⟩ _ p6 n68).trans ((Below.heap_setCell _ ⟨p7,0,none⟩ _ p6 n67).trans (Zaf b6)),(Below.heap_setCell _ ⟨p8,0,none⟩ _ p7 n78).trans (Zaf ((Below.heap_setCell _ ⟨p6,0,none⟩ _ p7 (Ne.symm n67)).trans b7)),Zaf ((Below.heap_setCell _ ⟨p7,0,none⟩ _ p8 (Ne.symm n78)).trans ((Below.heap_setCell _ ⟨p6,0,none⟩ _ p8 (Ne.symm n68)).trans b8)),n6,n7,n8,S1.ok,S2.ok,S3.ok,hc S1,hc S2,hc S3,hS (by simp),hS (by simp),hS (by simp)⟩
end
theorem tri_plain {s:Sch} {m:Int} {a b c:St} (hgs:GenS s) (hm:Zcm m=true) (ha:StOk s m a) (hb:StOk s m b) (hc:StOk s m c) (ca:Zak a≤16) (cb:Zak b≤16) (cc:Zak c≤16) :
  netF 0 s m (Zbu s a b++Zbu s b c)=(0,Zbu s a c):=by
 have h1:=ZhD hgs.wide ha hb;have h2:=ZhD hgs.wide hb hc
 have hfa:∀ (l r:List Chg) (st:St),Fit s m st l→Fit s m (after s st l) r→Fit s m st (l++r)∧after s st (l++r)=after s (after s st l) r:=by
  intro l;induction l with
  | nil=>intro r st _ h;exact⟨h,rfl⟩
  | cons x l ih =>
   intro r st h h';obtain⟨h3,h4⟩:=ih r _ h.2 h';exact⟨⟨h.1,h3⟩,h4⟩
 have h3:=hfa _ _ a h1.1 (by rw [h1.2];exact h2.1);have h4:=net_diff hgs.wide hm ha h3.1;rw [h3.2,h1.2,h2.2] at h4;exact h4
end Go.Proofs.Ytkpjjfhfbpfjpaa
