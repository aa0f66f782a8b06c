import Derived.Test.YtkpjjfhfbpfjpaaK185549
import Derived.Test.YtkpjjfhfbpfjpaaK49244f
import Derived.Laws.CopyOwn
import Derived.Laws.CopyRow
set_option linter.unusedVariables false
set_option linter.unusedSimpArgs false
set_option maxRecDepth 100000
set_option maxHeartbeats 8000000
namespace Go.Proofs.Ytkpjjfhfbpfjpaa
open Go.RowKit
theorem Fr.frozenF {X:Nat→Prop} {w w':World} (h:Fr X w w') {b o:Nat} (hb:b<w.heap.size) (hx:¬ X b):w'.frozen? ⟨b,o,none⟩=w.frozen? ⟨b,o,none⟩:=World.frozen?_of_block (h.block b hb hx)
theorem Zes {key m:Int} {ks:List Int} {r:Row} (h:Zgc key m ks r) (hl:ks.length≤1000000):RowOk r:=by
 refine⟨by rw [h.1];omega,fun v hv=>?_⟩;obtain⟨i,hi,rfl⟩:=List.getElem_of_mem hv;have h1:=h.2 i (by rw [←h.1];exact hi);rw [ZbY hi] at h1;unfold Zax at h1;simp only [Bool.and_eq_true] at h1;have:=ZcB h1.1;omega
theorem ZcD {s:Sch} {t:Int} {r:Row} (h:RowOk r):RowOk (keyF s t r):=by
 unfold keyF;split
 · exact⟨by rw [List.length_take];have:=h.1;omega,fun v hv=>h.2 v (List.mem_of_mem_take hv)⟩
 · exact⟨by simp,fun v hv=>by simp at hv⟩
structure StI (w wr:World) (g:Nat) (S:Nat→Prop) (s:Sch) (A0:Option Addr) (c0':Nat) (m:Int) (cur:St):Prop where
 stc:StC wr (fun b=>S b∨(w.heap.size+4≤b∧b<wr.heap.size)) (w.heap.size+2) cur
 ok:StOk s m cur
 b0:wr.cell? ⟨w.heap.size,0,none⟩=some (.int .i64 s.version)
 b1:wr.cell? ⟨w.heap.size,1,none⟩=some (.slice A0 s.tabs.length c0')
 r0:wr.cell? ⟨w.heap.size+1,0,none⟩=some (.slice none 0 0)
 rf:wr.frozen? ⟨w.heap.size+1,0,none⟩=false
 t0:wr.cell? ⟨w.heap.size+3,0,none⟩=some (.slice (some ⟨w.heap.size+2,0,none⟩) s.tabs.length s.tabs.length)
 tf:wr.frozen? ⟨w.heap.size+3,0,none⟩=false
 case:CaseOk wr g
 gr:w.grownBy wr (some g)
 sz:w.heap.size+4≤wr.heap.size
section
variable {w wr wx wp:World} {g:Nat} {S:Nat→Prop} {s:Sch} {A0:Option Addr} {c0':Nat} {m:Int} {cur cur':St}
theorem StI.keep (h:StI w wr g S s A0 c0' m cur) (hf:Fr (fun b=>b=g) wr wx) (hc:CaseOk wx g) (hgl:g<w.heap.size) (hS:∀ b,S b→b<w.heap.size∧b≠g):StI w wx g S s A0 c0' m cur:=by
 have hz:=h.sz;have hzx:=hf.size;refine⟨(h.stc.fr hf (fun b hb hl=>⟨fun hb'=>?_,by omega⟩)).more (fun b hb=>hb.imp id (fun hb=>⟨hb.1,by have:=hb.2;omega⟩)) (fun b hb=>?_),h.ok,(hf.cell (by omega) (by omega)).trans h.b0,(hf.cell (by omega) (by omega)).trans h.b1,(hf.cell (by omega) (by omega)).trans h.r0,(hf.frozenF (by omega) (by omega)).trans h.rf,(hf.cell (by omega) (by omega)).trans h.t0,(hf.frozenF (by omega) (by omega)).trans h.tf,hc,h.gr.trans hf.grown,by omega⟩
 · rcases hb' with hb' | hb'
   · exact(hS b hb').2 hb
   · omega
 · rcases hb with hb | hb
   · have:=hS b hb;omega
   · exact⟨hb.2,by have:=hb.1;omega⟩
theorem StI.put (h:StI w wr g S s A0 c0' m cur) (hgl:g<w.heap.size) (hS:∀ b,S b→b<w.heap.size∧b≠g) (hb:Below wr.heap.size wr wx) (hst:StC wp (fun b=>(S b∨(w.heap.size+4≤b∧b<wx.heap.size))∨New wx wp b) (w.heap.size+2) cur') (hf:Fr (fun b=>b=w.heap.size+2) wx wp) (hok:StOk s m cur') :
  StI w (wp.setCell ⟨w.heap.size+3,0,none⟩ (.slice (some ⟨w.heap.size+2,0,none⟩) s.tabs.length s.tabs.length)) g S s A0 c0' m cur':=by
 have hz:=h.sz;have hzx:=hb.size;have hzp:=hf.size;have hne:∀ b,b≠w.heap.size+3→(wp.setCell ⟨w.heap.size+3,0,none⟩ (.slice (some ⟨w.heap.size+2,0,none⟩) s.tabs.length s.tabs.length)).heap[b]?=wp.heap[b]?:=fun b hb=>Below.heap_setCell wp ⟨w.heap.size+3,0,none⟩ _ b hb;have hblk:∀ b,b<wr.heap.size→b≠w.heap.size+2→wp.heap[b]?=wr.heap[b]?:=fun b h1 h2=>(hf.block b (by omega) h2).trans (hb.block b h1);have hall:∀ b,b<wr.heap.size→b≠w.heap.size+2→b≠w.heap.size+3→(wp.setCell ⟨w.heap.size+3,0,none⟩ (.slice (some ⟨w.heap.size+2,0,none⟩) s.tabs.length s.tabs.length)).heap[b]?=wr.heap[b]?:=fun b h1 h2 h3=>(hne b h3).trans (hblk b h1 h2)
 have hnew:∀ b,((S b∨(w.heap.size+4≤b∧b<wx.heap.size))∨New wx wp b)→S b∨(w.heap.size+4≤b∧b<wp.heap.size):=fun b hb'=>by
  rcases hb' with (hb' | hb') | hb'
  · exact .inl hb'
  · exact .inr ⟨hb'.1,by have:=hb'.2;omega⟩
  · exact .inr ⟨by have h9:wx.heap.size≤b:=hb'.1;omega,hb'.2⟩
 have hlow:∀ b,(S b∨(w.heap.size+4≤b∧b<wp.heap.size))→b<wp.heap.size∧b≠w.heap.size+2:=fun b hb'=>by
  rcases hb' with hb' | hb'
  · have:=hS b hb';omega
  · exact⟨hb'.2,by have:=hb'.1;omega⟩
 have hst1:=hst.more (S':=fun b=>S b∨(w.heap.size+4≤b∧b<wp.heap.size)) hnew hlow;have hfg:Fr (fun b=>b=g) wr (wp.setCell ⟨w.heap.size+3,0,none⟩ (.slice (some ⟨w.heap.size+2,0,none⟩) s.tabs.length s.tabs.length))→True:=fun _=>trivial;refine⟨(hst1.keep (by simp) (fun b hb'=>hne b ?_) (hne (w.heap.size+2) (by omega))).more (fun b hb'=>hb'.imp id (fun hb'=>⟨hb'.1,by have:=hb'.2;simpa using this⟩)) (fun b hb'=>?_),hok,?_,?_,?_,?_,?_,?_,?_,?_,by simp;omega⟩
 · rcases hb' with hb' | hb'
   · have:=hS b hb';omega
   · have:=hb'.1;omega
 · have:=hlow b (by simpa using hb');simpa using this
 · exact(World.cell?_of_block (hall (w.heap.size) (by omega) (by omega) (by omega))).trans h.b0
 · exact(World.cell?_of_block (hall (w.heap.size) (by omega) (by omega) (by omega))).trans h.b1
 · exact(World.cell?_of_block (hall (w.heap.size+1) (by omega) (by omega) (by omega))).trans h.r0
 · exact(World.frozen?_of_block (hall (w.heap.size+1) (by omega) (by omega) (by omega))).trans h.rf
 · exact World.cell?_setCell_same _ _ _ ((World.cell?_of_block (hblk (w.heap.size+3) (by omega) (by omega))).trans h.t0)
 · rw [World.frozen?_setCell];exact(World.frozen?_of_block (hblk (w.heap.size+3) (by omega) (by omega))).trans h.tf
 · exact h.case.keep (fun b hb'=>hall b (by omega) (by omega) (by omega))
 · have h1:=h.gr;refine⟨?_,?_,?_,by simp;omega,fun b hb1 hb2=>(hall b (by omega) (by omega) (by omega)).trans (h1.block b hb1 hb2)⟩
   · exact hf.os.trans (hb.os.trans h1.os)
   · exact hf.tape.trans (hb.tape.trans h1.tape)
   · exact hf.output.trans (hb.output.trans h1.output)
end
def CntOk (cur:St) (t nn:Nat):Prop:=(∀ j,(cur.getD j []).length≤4)∧(cur.getD t []).length+nn≤4∧∀ j,t<j→cur.getD j []=[]
theorem CntOk.put {cur:St} {t nn:Nat} {P:List Row} (h:CntOk cur t (nn+1)) (ht:t<cur.length) (hP:P.length≤(cur.getD t []).length+1):CntOk (cur.set t P) t nn:=by
 have e1:(cur.set t P).getD t []=P:=(by simp [List.getD,ht]);have e2:∀ j,j≠t→(cur.set t P).getD j []=cur.getD j []:=(fun j hj=>by simp [List.getD,List.getElem?_set_ne (Ne.symm hj)]);refine⟨fun j=>?_,?_,fun j hj=>?_⟩
 · by_cases hj:j=t
   · rw [hj,e1];have:=h.2.1;omega
   · rw [e2 j hj];exact h.1 j
 · rw [e1];have:=h.2.1;omega
 · rw [e2 j (by omega)];exact h.2.2 j hj
theorem Zgz (n j:Nat):(List.replicate n ([]:List Row)).getD j []=[]:=by
 by_cases h:j<n<;>simp [List.getD,h]
def StatePost (s:Sch) (m:Int) (S:Nat→Prop) (w:World) (g:Nat) (e:Ending) (w':World):Prop:=∃ (gt:Nat) (st:St),e=.returned (ZbM (some ⟨gt,0,none⟩) st.length st.length)∧StOk s m st∧(∀ j,(st.getD j []).length≤4)∧w.heap.size≤gt∧StC w' (fun b=>S b∨(gt<b∧b<w'.heap.size)) gt st∧CaseOk w' g∧w.grownBy w' (some g)
theorem state_any (g:Nat) (A0:Option Addr) (c0':Nat) (s:Sch) (m:Int) (S:Nat→Prop) (w:World) (hs:TabS w S A0 s.tabs) (hS:∀ b,S b→b<w.heap.size∧b≠g) (hgs:GenS s) (hm:ZcG m=true) (hc:CaseOk w g) :
  Calls Try.prog 22 #[.pointer (some ⟨g,0,none⟩),sAgg s.version A0 s.tabs.length c0',.int .i64 m] w (StatePost s m S w g):=by
 have hgl:=hc.lt;have hsl:=hgs.len;have HS:=hI hs;have HSG:=hI hS;have HGS:=hI hgs;have HC:=hI hc;have HM:=hI hm;clear hs hgs hc hm;have hmk:∀ w:World,(Instr.makeSlice 54 (.int .i64 (s.tabs.length:Int)) (.int .i64 (s.tabs.length:Int))).run Try.prog w=.ok (.slice (some ⟨w.heap.size,0,none⟩) s.tabs.length s.tabs.length) (w.alloc (.cells (ZaJ s.tabs.length).toArray 49)):=fun w=>Zdp s.tabs.length (by omega) w;go_enter Try.func22,Try.ntmps22
 go_wp2_with fail
 clear hmk;rw [show w.heap.size+1+1+1=w.heap.size+3 from rfl,show w.heap.size+1+1=w.heap.size+2 from rfl];obtain⟨W,hW⟩:∃ W,(((w.alloc (.cells #[.int .i64 s.version,.slice A0 s.tabs.length c0'] 25)).alloc (.cells #[.slice none 0 0] 56)).alloc (.cells (ZaJ s.tabs.length).toArray 49)).alloc (.cells #[.slice (some ⟨w.heap.size+2,0,none⟩) s.tabs.length s.tabs.length] 56)=W:=⟨_,rfl⟩
 have HI0:=hI (show StI w W g S s A0 c0' m (List.replicate s.tabs.length []) from by
  subst hW;have hb:Below w.heap.size w ((((w.alloc (.cells #[.int .i64 s.version,.slice A0 s.tabs.length c0'] 25)).alloc (.cells #[.slice none 0 0] 56)).alloc (.cells (ZaJ s.tabs.length).toArray 49)).alloc (.cells #[.slice (some ⟨w.heap.size+2,0,none⟩) s.tabs.length s.tabs.length] 56)):=((((Below.refl w.heap.size w).alloc nR _).alloc (by simp) _).alloc (by simp;omega) _).alloc (by simp;omega) _
  have hg:(((((w.alloc (.cells #[.int .i64 s.version,.slice A0 s.tabs.length c0'] 25)).alloc (.cells #[.slice none 0 0] 56)).alloc (.cells (ZaJ s.tabs.length).toArray 49)).alloc (.cells #[.slice (some ⟨w.heap.size+2,0,none⟩) s.tabs.length s.tabs.length] 56))).heap[w.heap.size+2]?=some (.cells (ZaJ s.tabs.length).toArray 49 (0,0)):=by
   refine(Below.heap_alloc _ _ _ (by simp)).trans ?_;have:=heap_alloc_new ((w.alloc (.cells #[.int .i64 s.version,.slice A0 s.tabs.length c0'] 25)).alloc (.cells #[.slice none 0 0] 56)) (.cells (ZaJ s.tabs.length).toArray 49);simpa using this
  exact⟨(StC.made hg).more (fun _ h=>h.elim) (fun b hb'=>by
   rcases hb' with hb' | hb'
   · have:=HSG.out b hb';simp;omega
   · exact⟨hb'.2,by have:=hb'.1;omega⟩),stOk_nil _ rfl,(Zaf (by simp<;>omega)).trans ((Zaf (by simp<;>omega)).trans ((Zaf (by simp)).trans (Zad rfl rfl))),(Zaf (by simp<;>omega)).trans ((Zaf (by simp<;>omega)).trans ((Zaf (by simp)).trans (Zad rfl rfl))),(Zaf (by simp<;>omega)).trans ((Zaf (by simp)).trans (Zad (by simp) rfl)),(Zbn (by simp<;>omega)).trans ((Zbn (by simp)).trans (ZaK (by simp))),Zad (by simp) rfl,ZaK (by simp),HC.out.keep (fun b hb'=>hb.block b (by omega)),(Fr.of_below (X:=fun b=>b=g) hb).grown,by simp⟩)
 rw [hW];clear hW HC
 go_loopw [19] (fun i wr=>∃ (t:Nat) (cur:St),t≤s.tabs.length∧i=.int .i64 t∧StI w wr g S s A0 c0' m cur∧(∀ j,(cur.getD j []).length≤4)∧∀ j,t≤j→cur.getD j []=[]) (fun i _=>s.tabs.length - (intOf i).toNat)
 case atStart=>exact⟨0,_,Nat.zero_le _,rfl,HI0.out,fun j=>by rw [Zgz];simp,fun j _=>Zgz _ _⟩
 case round =>
  obtain⟨t,cur,ht,rfl,hi,hc4,hcn⟩:=hrel;have HI:=hI hi;have HC4:=hI hc4;have HCN:=hI hcn;have hsz:=hi.sz;clear hi hc4 hcn
  by_cases htl:t<s.tabs.length
  · go_wp2_with fail
    refine(ZaH g 5 _ (by omega) HI.out.case).mono ?_;rintro e w1 ⟨r,rfl,r0,r1,-,hcr,hgr,hsr⟩;have hr5:=r1 (by omega);obtain⟨nn,rfl⟩:=Int.eq_ofNat_of_zero_le r0;have HI1:=hI (HI.out.keep (ZaS hgr) hcr hgl HSG.out);clear hcr hgr hsr r1
    go_wp2_with fail
    go_loopw [9] (fun i wr=>∃ (nn:Nat) (cur:St),nn≤4∧i=.int .i64 nn∧StI w wr g S s A0 c0' m cur∧CntOk cur t nn) (fun i _=>(intOf i).toNat)
    case atStart=>exact⟨nn,cur,by omega,rfl,HI1.out,HC4.out,by rw [HCN.out t nR];simp;omega,fun j hj=>HCN.out j (by omega)⟩
    case round =>
     clear HI HI1 HC4 HCN hsz;obtain⟨nn,cur,hnn,rfl,hi,hcn⟩:=hrel;have HI:=hI hi;have HCN:=hI hcn;have hsz:=hi.sz;clear hi hcn;rcases Nat.eq_zero_or_pos nn with hn0 | hn0
     · subst hn0
       go_wp2_with fail
       go_roundw
       case rel=>exact⟨t+1,cur,by omega,by go_num,HI.out,HCN.out.1,fun j hj=>HCN.out.2.2 j (by omega)⟩
       case measure=>(simp [intOf];try omega)
     · obtain⟨n1,rfl⟩:∃ n1,nn=n1+1:=⟨nn - 1,by omega⟩;have hSw:∀ b,S b→b<w.heap.size:=fun b hb=>(HSG.out b hb).1;have hsame:Same S w wr:=fun b hb=>HI.out.gr.block b (hSw b hb) (fun e=>(HSG.out b hb).2 (by injection e));have HTW:=hI (HS.out.keep hsame);have hSr:∀ b,S b→b<wr.heap.size:=(fun b hb=>by have:=hSw b hb;omega);obtain⟨bT,oT,rfl,hbT,A1,A2,A3,c1,c2,c3,hta⟩:=HTW.out.at_ htl;have lT:bT<wr.heap.size:=hSr bT hbT;have l0:w.heap.size<wr.heap.size:=(by omega);have hg0:¬ w.heap.size=g:=(by omega);have hgT:¬ bT=g:=(HSG.out bT hbT).2;have u0:=HI.out.b0;have u1:=HI.out.b1;have u2:=hta.key;have hkl:(ZaZ s t).length≤1000000:=(by have:=(HGS.out.kinds htl).2;omega);have HFIT:=hI (fun (r:Row) (h:Zgc (s.tabs.getD t t0).key m (ZaZ s t) r)=>Zet HGS.out HM.out htl h);clear hta hsame;generalize (s.tabs.getD t t0).key=ky at u2 HFIT
       go_wp2_with fail
       refine tS (fun w'=>w'.cell? ⟨w.heap.size,0,none⟩=some (.int .i64 s.version)∧w'.cell? ⟨w.heap.size,1,none⟩=some (.slice (some ⟨bT,oT,none⟩) s.tabs.length c0')∧w'.cell? ⟨bT,oT+t*5+2,none⟩=some (.int .i64 ky)) 13 13 fun Q' HQ HP=>?_;refine tX 0 28 1 29 2 30 4 32 (bA 13 23) HP.out ⟨u0,u1,u2⟩ ?_;refine tX 5 33 6 34 7 35 8 36 (bA 13 503) HP.out ⟨u0,u1,u2⟩ ?_;refine tW 9 37 10 38 (bA 13 2039) HP.out ⟨u0,u1,u2⟩ ?_;refine tQ 3 (some 31) (bA 13 2047) fun K HK=>?_;go_simp;refine(ZdF (some ⟨bT,oT,none⟩) c0' s t S wr.drew (HTW.out.keep (fun _ _=>rfl)) hSr).mono ?_;rintro e wk ⟨KA,kc,rfl,hks,hkc,-,hbk0⟩;have hbk:Below wr.heap.size wr wk:=(Below.refl _ wr).drew.trans hbk0;have hzk:=hbk.size;have HKS:=hI hks;clear hks hbk0;have p0:=c9Q hbk l0 u0;have p1:=c9Q hbk l0 u1;have p2:=c9Q hbk lT u2;refine HK.out _ _ (fun _=>⟨p0,p1,p2⟩) ?_;clear HK K
       try simp only [Act.put,psA,psB,psC]
       refine tQ 11 (some 39) (bA 13 4095) fun K HK=>?_;go_simp;refine(ZgI g KA kc (ZaZ s t) ky m (New wr.drew wk) wk HKS.out (fun b hb=>⟨hb.2,by have h9:wr.heap.size≤b:=hb.1;omega⟩) hkl (HI.out.case.keep (fun b hb=>hbk.block b (by omega)))).mono ?_;rintro e wq ⟨row,RA,rc,rfl,hgen,hrow,hcq,hgq⟩;have hzq:=hgq.size;have HGEN:=hI hgen;have HROW:=hI (ZaQ hrow (Zes HGEN.out hkl) nR);have HFQ:=hI (show Fr (fun b=>b=g) wr wq from (Fr.of_below hbk).trans (ZaS hgq) (fun _ _ e=>e));have HIQ:=hI (HI.out.keep HFQ.out hcq hgl HSG.out);clear hgen hrow hcq;have q0:=(HFQ.out.cell (b:=w.heap.size) l0 hg0).trans u0;have q1:=(HFQ.out.cell (b:=w.heap.size) l0 hg0).trans u1;have q2:=(HFQ.out.cell (b:=bT) lT hgT).trans u2;clear hgq;refine HK.out _ _ (fun _=>⟨q0,q1,q2⟩) ?_;clear HK K
       try simp only [Act.put,psA,psB,psC]
       refine tJ 12 10 (bA 13 8191) HP.out ⟨q0,q1,q2⟩ ?_;refine tE HQ ?_;clear HQ HP Q';have HTQ:=hI (HTW.out.keep (HFQ.out.same (fun b hb=>⟨hSr b hb,(HSG.out b hb).2⟩)));have hsq:=HIQ.out.sz;clear p0 p1 p2 u0 u1 u2 q2;have u0:=q0;have u1:=q1;have u2:=HIQ.out.t0;clear q0 q1;have hqq:wr.heap.size≤wq.heap.size:=HFQ.out.size
       go_wp2_with fail
       refine tS (fun w'=>w'.cell? ⟨w.heap.size,0,none⟩=some (.int .i64 s.version)∧w'.cell? ⟨w.heap.size,1,none⟩=some (.slice (some ⟨bT,oT,none⟩) s.tabs.length c0')∧w'.cell? ⟨w.heap.size+3,0,none⟩=some (.slice (some ⟨w.heap.size+2,0,none⟩) s.tabs.length s.tabs.length)) 9 10 fun Q' HQ HP=>?_;refine tX 0 40 1 41 2 42 3 43 (bA 10 15) HP.out ⟨u0,u1,u2⟩ ?_;refine tW 4 44 5 45 (bA 10 63) HP.out ⟨u0,u1,u2⟩ ?_;refine tJ 7 47 (bA 10 191) HP.out ⟨u0,u1,u2⟩ ?_;refine tQ 6 (some 46) (bA 10 255) fun K HK=>?_;go_simp;refine(Zdq (some ⟨bT,oT,none⟩) c0' s t RA rc row (fun b=>b<wq.heap.size) wq.drew ((HTQ.out.keep (w':=wq.drew) (fun _ _=>rfl)).more (fun b hb=>by have:=hSr b hb;show b<wq.heap.size;omega)) ((HROW.out.2.keep (w':=wq.drew) (fun _ _=>rfl)).more (fun b hb=>hb.2)) HROW.out.1 (fun b hb=>hb)).mono ?_;rintro e wk ⟨KA2,kc2,rfl,hkey,hbk0⟩;have hbk:Below wq.heap.size wq wk:=(Below.refl _ wq).drew.trans hbk0;have hzk2:=hbk.size;have HKEY:=hI (ZaQ hkey (ZcD (s:=s) (t:=t) (Zes HGEN.out hkl)) (show wq.heap.size≤_ from Nat.le_refl _));clear hkey hbk0;have p0:=c9K hbk u0;have p1:=c9K hbk u1;have p2:=c9K hbk u2;refine HK.out _ _ (fun _=>⟨p0,p1,p2⟩) ?_;clear HK K
       try simp only [Act.put,psA,psB,psC]
       refine tQ 8 (some 48) (bA 10 511) fun K HK=>?_;go_simp;have HST:=hI (HIQ.out.stc.below hbk);have hlen2:=HIQ.out.ok.1;have hput:=Zgp (some ⟨bT,oT,none⟩) c0' s (w.heap.size+2) s.tabs.length cur t KA2 kc2 (keyF s t row) RA rc row (fun b=>S b∨(w.heap.size+4≤b∧b<wk.heap.size)) wk ((HTQ.out.keep (Same.of_below hbk (fun b hb=>by have:=hSr b hb;omega))).more (fun b hb=>.inl hb)) (HST.out.more (fun b hb=>hb.imp id (fun hb=>⟨hb.1,by have:=hb.2;omega⟩)) (fun b hb=>by rcases hb with hb | hb;{ have:=HSG.out b hb;omega };exact⟨hb.2,by have:=hb.1;omega⟩)) (HKEY.out.2.more (fun b hb=>.inr ⟨by have h9:wq.heap.size≤b:=hb.1;omega,hb.2⟩)) ((HROW.out.2.keep (Same.of_below hbk (fun b hb=>hb.2))).more (fun b hb=>.inr ⟨by have h9:_≤b:=hb.1;omega,by have:=hb.2;omega⟩)) htl (by omega) (by have:=HCN.out.1 t;omega) (by omega);rw [hlen2] at hput;refine hput.mono ?_;rintro e wp ⟨rfl,hstp,hfp⟩;have HSTP:=hI hstp;have HFP:=hI hfp;have hzp:=hfp.size;clear hput hstp hfp;have q0:=(HFP.out.cell (b:=w.heap.size) (by omega) (by omega)).trans p0;have q1:=(HFP.out.cell (b:=w.heap.size) (by omega) (by omega)).trans p1;have q2:=(HFP.out.cell (b:=w.heap.size+3) (by omega) (by omega)).trans p2;refine HK.out _ _ (fun _=>⟨q0,q1,q2⟩) ?_;clear HK K
       try simp only [Act.put,psA,psB,psC]
       refine tQ 9 none (bA 10 1023) fun K HK=>?_;have tf:=(HFP.out.frozenF (b:=w.heap.size+3) (o:=0) (by omega) (by omega)).trans ((hbk.frozen (p:=⟨w.heap.size+3,0,none⟩) (by show _<_;simp;omega)).trans HIQ.out.tf);go_simp;refine HK.out _ _ (fun h=>absurd rfl h) ?_;clear HK K;refine tE HQ ?_;clear HQ HP Q';have hok:=put_ok HIQ.out.ok (t:=t) (by rw [HIQ.out.ok.1];exact htl) (key:=keyF s t row) (row:=row) (fun _=>rfl) (fun _=>HFIT.out row HGEN.out);have HF:=hI (HIQ.out.put hgl HSG.out hbk HSTP.out HFP.out hok.1)
       go_wp2_with fail
       go_roundw
       case rel=>exact⟨n1,_,by omega,by go_num,HF.out,HCN.out.put (by rw [HIQ.out.ok.1];exact htl) (by rw [hok.2];exact putL_len _ _ _ _)⟩
       case measure=>(simp [intOf];try omega)
  · have r0:=HI.out.r0;have rf:=HI.out.rf;have t0':=HI.out.t0;have hl3:w.heap.size+3<wr.heap.size:=(by omega);have hl1:w.heap.size+1<wr.heap.size:=by omega
    go_wp2_with fail
    have x0:(wr.setCell ⟨w.heap.size+1,0,none⟩ (.slice (some ⟨w.heap.size+2,0,none⟩) s.tabs.length s.tabs.length)).cell? ⟨w.heap.size+1,0,none⟩=some (.slice (some ⟨w.heap.size+2,0,none⟩) s.tabs.length s.tabs.length):=World.cell?_setCell_same _ _ _ r0;have hne:∀ b,b≠w.heap.size+1→(wr.setCell ⟨w.heap.size+1,0,none⟩ (.slice (some ⟨w.heap.size+2,0,none⟩) s.tabs.length s.tabs.length)).heap[b]?=wr.heap[b]?:=fun b hb=>Below.heap_setCell wr ⟨w.heap.size+1,0,none⟩ _ b hb;have hlen:=HI.out.ok.1
    have hst:=(HI.out.stc.keep (w':=wr.setCell ⟨w.heap.size+1,0,none⟩ (.slice (some ⟨w.heap.size+2,0,none⟩) s.tabs.length s.tabs.length)) (by simp) (fun b hb=>hne b (by rcases hb with hb | hb;{ have:=HSG.out b hb;omega };have:=hb.1;omega)) (hne (w.heap.size+2) (by omega))).more (S':=fun b=>S b∨(w.heap.size+2<b∧b<(wr.setCell ⟨w.heap.size+1,0,none⟩ (.slice (some ⟨w.heap.size+2,0,none⟩) s.tabs.length s.tabs.length)).heap.size)) (fun b hb=>hb.imp id (fun hb=>⟨by have:=hb.1;omega,by have:=hb.2;simpa using this⟩)) (fun b hb=>by
     rcases hb with hb | hb
     · have:=HSG.out b hb;simp;omega
     · exact⟨hb.2,by have:=hb.1;omega⟩)
    exact bodyPost_ret (v:=ZbM (some ⟨w.heap.size+2,0,none⟩) s.tabs.length s.tabs.length) (by simp [results,Try.results22,go_sem,x0]) rfl ⟨w.heap.size+2,cur,by rw [hlen],HI.out.ok,HC4.out,by omega,hst,Zab HI.out.case (by omega),Zac HI.out.gr (by omega)⟩
open Go
theorem run_copy_rowK {P:Program} (w:World) (dT sT ty elem:TypeId) (k g o dLen dCap:Nat) (a:Addr) (sLen sCap:Nat) (cur:Array Value) (t:TypeId) (cs:List Value) (m:Nat)
  (hu:P.underlying dT=some (.slice elem)) (hs:(P.info? elem).map (·.size)=some k)
  (hg:w.heap[g]?=some (.cells cur t (0,0))) (hm:m=Nat.min sLen dLen) (hn:cs.length=m*k)
  (hsrc:∀ j v,cs[j]?=some v→w.cell? (a.add j)=some v) (hfit:o+cs.length≤cur.size) (h1:∀ v ∈ cs,v.oneCell'=true) :
  (Builtin.copy_ #[dT,sT] ty #[.slice (some ⟨g,o,none⟩) dLen dCap,.slice (some a) sLen sCap]).run P w =
   .ok (goInt m) (w.setRow g (cur.toList.take o++cs++cur.toList.drop (o+cs.length)).toArray):=by
 have hl:=run_loadCells_list (P:=P) w a cs hsrc;have hst:=run_storeCells_at P g o t cs 0 cur w hg (by simpa using hfit) h1;rw [hn] at hl;cases hq:P.info? elem with
 | none=>simp [hq] at hs
 | some i =>
  have hi:i.size=k:=(by simpa [hq] using hs);simp [Builtin.copy_,run_underlying hu,Builtin.lenOf,Builtin.firstCells,sizeOf,typeInfo,hq,hi,←hm,hl,hst]
theorem wpList_copy_k {P:Program} {w:World} {ops:Array Oper} {rest:List Oper} {o:Oper} {a:Act} {Q:Exit→Act→World→Prop} (hgd:o.guard=none) (d s:Operand) (dT sT:TypeId)
  (ho:o.op=.call { callee:=.builtin .copy,args:=#[d,s],argTypes:=#[dT,sT] }) (elem:TypeId) (k:Nat) (hu:P.underlying dT=some (.slice elem)) (hsz:(P.info? elem).map (·.size)=some k)
  (g dLen dCap:Nat) (ad:Addr) (sLen sCap:Nat) (hd:a.eval d=.slice (some ⟨g,0,none⟩) dLen dCap) (hs:a.eval s=.slice (some ad) sLen sCap)
  (cur:List Value) (t:TypeId) (hg:w.heap[g]?=some (.cells cur.toArray t (0,0))) (cs:List Value) (m:Nat) (hm:m=Nat.min sLen dLen) (hn:cs.length=m*k)
  (hsrc:∀ j v,cs[j]?=some v→w.cell? (ad.add j)=some v) (hfit:cs.length≤cur.length) (h1:∀ v ∈ cs,v.oneCell'=true)
  (h:∀ w',w'.heap[g]?=some (.cells (cs++cur.drop cs.length).toArray t (0,0))→Fr (fun b=>b=g) w w'→wpList P ops Q rest (a.put o.dst (goInt m)) w'):wpList P ops Q (o :: rest) a w:=by
 refine wpList_plain hgd fun K hK=>?_;have hrun:=run_copy_rowK (P:=P) w dT sT o.type elem k g 0 dLen dCap ad sLen sCap cur.toArray t cs m hu hsz hg hm hn hsrc (by simpa using hfit) h1;unfold Oper.wp;simp only [execOp,ho,resolve,invoke,builtin,hd,hs];simp [hd,hs,hrun,Result.andThen];refine hK _ _ (h _ ?_ ?_)
 · have:=setRow_heap w g cur.toArray (cs++cur.drop cs.length).toArray t _ hg;simpa using this
 · exact⟨rfl,rfl,rfl,by simp [World.setRow],fun b hb hne=>setRow_other w g b _ hne⟩
theorem Zcw {m key:Int}:∀ {cs:List Col} {r:Row} {i:Nat},ZaM m key i cs r=true→r.length=cs.length→∀ j,j<cs.length→Zax m key (cs.getD j c0).kind (i+j) (r.getD j v0)=true
 | [],r,i,_,_,j,hj=>by simp at hj
 | c :: cs,[],i,_,h,j,_=>by simp at h
 | c :: cs,v :: r,i,hf,h,j,hj=>by
  simp only [ZaM,Bool.and_eq_true] at hf;cases j with
  | zero=>simpa using hf.1
  | succ j =>
   have:=Zcw hf.2 (by simpa using h) j (by simpa using hj);rw [show i+1+j=i+(j+1) by omega] at this;simpa using this
theorem Zfv {s:Sch} {t:Nat} (ht:t<s.tabs.length) (r:Row):keyF s t r=r.take (keyN (s.tabs.getD t t0).key r):=by
 unfold keyF hasN;rw [if_pos (by simp;omega),Int.toNat_natCast]
def mixR (k r:Row):Row:=k++r.drop k.length
theorem ZcH {k r:Row} (h:k.length≤r.length):(mixR k r).length=r.length:=by simp [mixR];omega
theorem fits_mix {s:Sch} {m:Int} {t:Nat} (ht:t<s.tabs.length) {old row:Row} (ho:ZaE s t old m=true) (hr:ZaE s t row m=true):(keyF s t old).length≤row.length∧ZaE s t (mixR (keyF s t old) row) m=true:=by
 have lo:=Zcu ho;have lr:=Zcu hr;rw [Int.toNat_natCast] at lo lr;have hk:(keyF s t old).length≤row.length:=(by rw [Zfv ht,List.length_take];omega);refine⟨hk,?_⟩;unfold ZaE at ho hr ⊢;rw [Int.toNat_natCast] at *;simp only [Bool.and_eq_true,decide_eq_true_eq] at ho hr ⊢;refine⟨⟨hr.1.1,by rw [ZcH hk];exact hr.1.2⟩,Zde (by rw [ZcH hk];exact hr.1.2) (fun j hj=>?_)⟩
 by_cases h:j<(keyF s t old).length
 · have e:(mixR (keyF s t old) row).getD j v0=old.getD j v0:=by
     have h2:j<old.length:=(by rw [Zfv ht,List.length_take] at h;omega);have h3:j<(mixR (keyF s t old) row).length:=(by rw [ZcH hk];omega);rw [ZbY h3,ZbY h2];have e3:(keyF s t old)[j]=old[j]:=(by simp only [Zfv ht,List.getElem_take]);rw [←e3];exact List.getElem_append_left h
   rw [e];exact Zcw ho.2 ho.1.2 j hj
 · have e:(mixR (keyF s t old) row).getD j v0=row.getD j v0:=by
     have h2:j<row.length:=(by omega);have h3:j<(mixR (keyF s t old) row).length:=(by rw [ZcH hk];omega);rw [ZbY h3,ZbY h2];simp only [mixR];rw [List.getElem_append_right (by omega),List.getElem_drop]
     congr 1
     omega
   rw [e];exact Zcw hr.2 hr.1.2 j hj
theorem chg_ok {s:Sch} {m:Int} (hw:∀ t,t<s.tabs.length→0<(s.tabs.getD t t0).cols.length) {cur:St} (hc:StOk s m cur) {t:Nat} (ht:t<s.tabs.length) {row:Row} (hr:ZaE s t row m=true) {b:Bool} (hb:look s cur t (keyF s t row)=[]→b=true) {x:Chg} (hx:x=⟨t,look s cur t (keyF s t row),if b then row else []⟩) :
  Zat s m x=true∧ZcW s x (cur.getD t [])=true∧keyC s x=keyF s t row:=by
 have htc:t<cur.length:=(by rw [hc.1];exact ht);have hrl:0<row.length:=(by have:=Zcu hr;rw [Int.toNat_natCast] at this;rw [this];exact hw t ht);obtain⟨old,ho⟩:∃ old,look s cur t (keyF s t row)=old:=⟨_,rfl⟩;rw [ho] at hb hx
 have hkey:keyC s x=keyF s t row:=by
  subst hx;unfold keyC
  by_cases h0:0<old.length
  · rw [if_pos h0];exact(Zfu hc htc ho h0).2
  · rw [if_neg h0];have e:old=[]:=List.eq_nil_of_length_eq_zero (by omega);rw [hb e];rfl
 refine⟨?_,fits_of_look hc (full_of hw hc) (by rw [hx]) htc (by rw [hkey,ho,hx]),hkey⟩;subst hx;unfold Zat hasN;simp only [Bool.and_eq_true,Bool.or_eq_true,decide_eq_true_eq,Bool.not_eq_true',beq_iff_eq];refine⟨⟨⟨⟨⟨by omega,by omega⟩,?_⟩,?_⟩,?_⟩,?_⟩
 · rw [Bool.and_eq_false_iff]
   by_cases h0:old.length=0
   · refine .inr (decide_eq_false ?_);rw [hb (List.eq_nil_of_length_eq_zero h0)];simp;intro e;rw [e] at hrl;simp at hrl
   · exact .inl (decide_eq_false h0)
 · by_cases h0:old.length=0
   · exact .inl h0
   · exact .inr (ZfT hc htc ho (by omega))
 · cases b
   · exact .inl rfl
   · exact .inr hr
 · by_cases h0:old.length=0
   · exact .inl (.inl h0)
   · cases b
     · exact .inl (.inr rfl)
     · exact .inr ((cmpR_is.zero _ _).2 (Zfu hc htc ho (by omega)).2)
theorem put_chg {s:Sch} {m:Int} {cur:St} (hc:StOk s m cur) {t:Nat} (ht:t<cur.length) {x:Chg} (hx:x.table=t) {key:Row} (hk:keyC s x=key):cur.set t (putR s t key x.new (cur.getD t []))=Zdk s cur x:=by
 unfold Zdk;rw [ZgK (hc.2 t ht).2,ZgL,hk,hx,Int.toNat_natCast]
theorem getS_look {s:Sch} {cur:St} {t:Nat} (h1:t<s.tabs.length) (h2:t<cur.length) (key:Row):(getS s cur t key).getD []=look s cur t key:=by
 unfold getS look inT hasN;rw [if_pos (by simp;omega),Int.toNat_natCast]
structure ChI (w wr:World) (B0 gt cap g:Nat) (S:Nat→Prop) (s:Sch) (A0:Option Addr) (c0':Nat) (cur:St) (l:List Chg) (A:Option Addr) (c:Nat):Prop where
 stc:StC wr (fun b=>S b∨(w.heap.size+3≤b∧b<B0∧b≠gt)∨Beh B0 wr (.slice A l.length c) b) gt cur
 mkl:Mk wr B0 (fun _=>False) 53 3 (.slice A l.length c) (l.map Zan)
 b0:wr.cell? ⟨w.heap.size,0,none⟩=some (.int .i64 s.version)
 b1:wr.cell? ⟨w.heap.size,1,none⟩=some (.slice A0 s.tabs.length c0')
 s0:wr.cell? ⟨w.heap.size+1,0,none⟩=some (.slice (some ⟨gt,0,none⟩) s.tabs.length cap)
 sf:wr.frozen? ⟨w.heap.size+1,0,none⟩=false
 r0:wr.cell? ⟨w.heap.size+2,0,none⟩=some (.slice none 0 0)
 rf:wr.frozen? ⟨w.heap.size+2,0,none⟩=false
 case:CaseOk wr g
 gr:w.grownBy wr (some g)
 lo:w.heap.size+3≤gt
 hi:gt<B0
section
variable {w wr wx wl wp:World} {B0 gt cap g:Nat} {S:Nat→Prop} {s:Sch} {A0:Option Addr} {c0':Nat} {cur cur':St} {l:List Chg} {A A':Option Addr} {c c':Nat}
theorem ChI.sz (h:ChI w wr B0 gt cap g S s A0 c0' cur l A c):B0≤wr.heap.size:=h.mkl.hi
theorem ChI.keep (h:ChI w wr B0 gt cap g S s A0 c0' cur l A c) (hf:Fr (fun b=>b=g) wr wx) (hc:CaseOk wx g) (hgl:g<w.heap.size) (hS:∀ b,S b→b<w.heap.size∧b≠g):ChI w wx B0 gt cap g S s A0 c0' cur l A c:=by
 have h1:=h.lo;have h2:=h.hi;have h3:=h.sz;have h4:=hf.size;refine⟨(h.stc.fr hf (fun b hb hl=>⟨fun hb'=>?_,by omega⟩)).more (fun b hb=>hb.imp id (fun hb=>hb.imp id (fun hb=>⟨hb.1,by have:=hb.2.1;omega,hb.2.2⟩))) (fun b hb=>?_),h.mkl.keep hf (fun b hb=>⟨by omega,fun h=>h⟩),(hf.cell (by omega) (by omega)).trans h.b0,(hf.cell (by omega) (by omega)).trans h.b1,(hf.cell (by omega) (by omega)).trans h.s0,(hf.frozenF (by omega) (by omega)).trans h.sf,(hf.cell (by omega) (by omega)).trans h.r0,(hf.frozenF (by omega) (by omega)).trans h.rf,hc,h.gr.trans hf.grown,h1,h2⟩
 · rcases hb' with hb' | hb' | hb'
   · exact(hS b hb').2 hb
   · omega
   · have:=hb'.1;omega
 · rcases hb with hb | hb | hb
   · have:=hS b hb;omega
   · exact⟨by omega,hb.2.2⟩
   · exact⟨hb.2.1,by have:=hb.1;omega⟩
theorem ChI.push (h:ChI w wr B0 gt cap g S s A0 c0' cur l A c) {x:Chg} {g7 c7:Nat} (hgl:g<w.heap.size) (hS:∀ b,S b→b<w.heap.size∧b≠g) (hm:Mk wx B0 (fun _=>False) 53 3 (.slice (some ⟨g7,0,none⟩) (l.length+1) c7) (l.map Zan++[Zan x])) (hf:Fr (fun b=>some b=(Value.slice A l.length c).ownBlock) wr wx) (hat:(Value.slice A l.length c).ownBlock=some g7∨wr.heap.size≤g7):ChI w wx B0 gt cap g S s A0 c0' cur (l++[x]) (some ⟨g7,0,none⟩) c7:=by
 have h1:=h.lo;have h2:=h.hi;have h3:=h.sz;have h4:=hf.size;have hown:∀ b,some b=(Value.slice A l.length c).ownBlock→B0≤b:=fun b e=>(h.mkl.base_le e.symm).1;have hlen:(l++[x]).length=l.length+1:=(by simp)
 have hnw:∀ b,b<wr.heap.size→some b≠(Value.slice A l.length c).ownBlock→b≠g7:=fun b hb hne e=>by
  rcases hat with e' | e'
  · exact hne (by rw [e',e])
  · omega
 refine⟨(h.stc.fr hf (fun b hb hl=>⟨fun hb'=>?_,by have:=hown b hb;omega⟩)).more (fun b hb=>hb.imp id (fun hb=>hb.imp id (fun hb=>⟨hb.1,by have:=hb.2.1;omega,fun e=>hnw b hb.2.1 hb.2.2 (by simpa [Value.ownBlock] using e)⟩))) (fun b hb=>?_),by rw [hlen,List.map_append];exact hm,(hf.cell (by omega) (fun e=>by have:=hown _ e;omega)).trans h.b0,(hf.cell (by omega) (fun e=>by have:=hown _ e;omega)).trans h.b1,(hf.cell (by omega) (fun e=>by have:=hown _ e;omega)).trans h.s0,(hf.frozenF (by omega) (fun e=>by have:=hown _ e;omega)).trans h.sf,(hf.cell (by omega) (fun e=>by have:=hown _ e;omega)).trans h.r0,(hf.frozenF (by omega) (fun e=>by have:=hown _ e;omega)).trans h.rf,h.case.keep (fun b hb=>hf.block b (by omega) (fun e=>by have:=hown _ e;omega)),?_,h1,h2⟩
 · have:=hown b hb;rcases hb' with hb' | hb' | hb'
   · have:=hS b hb';omega
   · omega
   · exact hb'.2.2 hb
 · rcases hb with hb | hb | hb
   · have:=hS b hb;omega
   · exact⟨by omega,hb.2.2⟩
   · exact⟨hb.2.1,by have:=hb.1;omega⟩
 · have hg:=h.gr;exact⟨hf.os.trans hg.os,hf.tape.trans hg.tape,hf.output.trans hg.output,Nat.le_trans hg.size hf.size,fun b hb hne=>(hf.block b (by omega) (fun e=>by have:=hown _ e;omega)).trans (hg.block b hb hne)⟩
theorem ChI.put (h:ChI w wl B0 gt cap g S s A0 c0' cur l A c) (hgl:g<w.heap.size) (hS:∀ b,S b→b<w.heap.size∧b≠g) (hst:StC wp (fun b=>(S b∨(w.heap.size+3≤b∧b<B0∧b≠gt)∨Beh B0 wl (.slice A l.length c) b)∨New wl wp b) gt cur') (hf:Fr (fun b=>b=gt) wl wp) :
  ChI w (wp.setCell ⟨w.heap.size+1,0,none⟩ (.slice (some ⟨gt,0,none⟩) s.tabs.length cap)) B0 gt cap g S s A0 c0' cur' l A c:=by
 have h1:=h.lo;have h2:=h.hi;have h3:=h.sz;have h4:=hf.size;have hsz:(wp.setCell ⟨w.heap.size+1,0,none⟩ (.slice (some ⟨gt,0,none⟩) s.tabs.length cap)).heap.size=wp.heap.size:=(by simp);have hne:∀ b,b≠w.heap.size+1→(wp.setCell ⟨w.heap.size+1,0,none⟩ (.slice (some ⟨gt,0,none⟩) s.tabs.length cap)).heap[b]?=wp.heap[b]?:=fun b hb=>Below.heap_setCell wp ⟨w.heap.size+1,0,none⟩ _ b hb;have hall:∀ b,b<wl.heap.size→b≠gt→b≠w.heap.size+1→(wp.setCell ⟨w.heap.size+1,0,none⟩ (.slice (some ⟨gt,0,none⟩) s.tabs.length cap)).heap[b]?=wl.heap[b]?:=fun b q1 q2 q3=>(hne b q3).trans (hf.block b q1 q2);have hnb:∀ b,some b=(Value.slice A l.length c).ownBlock→B0≤b∧b<wl.heap.size:=fun b e=>h.mkl.base_le e.symm
 have hnew:∀ b,((S b∨(w.heap.size+3≤b∧b<B0∧b≠gt)∨Beh B0 wl (.slice A l.length c) b)∨New wl wp b)→S b∨(w.heap.size+3≤b∧b<B0∧b≠gt)∨Beh B0 wp (.slice A l.length c) b:=fun b hb'=>by
  rcases hb' with (hb' | hb' | hb') | hb'
  · exact .inl hb'
  · exact .inr (.inl hb')
  · exact .inr (.inr ⟨hb'.1,by have:=hb'.2.1;omega,hb'.2.2⟩)
  · have h9:wl.heap.size≤b:=hb'.1;exact .inr (.inr ⟨by omega,hb'.2,fun e=>by have:=hnb b e;omega⟩)
 have hlow:∀ b,(S b∨(w.heap.size+3≤b∧b<B0∧b≠gt)∨Beh B0 wp (.slice A l.length c) b)→b<wp.heap.size∧b≠gt∧b≠w.heap.size+1:=fun b hb=>by
  rcases hb with hb | hb | hb
  · have:=hS b hb;omega
  · have:=hb.1;have:=hb.2.1;have:=hb.2.2;omega
  · have:=hb.1;have:=hb.2.1;omega
 have hst1:=hst.more (S':=fun b=>S b∨(w.heap.size+3≤b∧b<B0∧b≠gt)∨Beh B0 wp (.slice A l.length c) b) hnew (fun b hb=>⟨(hlow b hb).1,(hlow b hb).2.1⟩);have hfw:Fr (fun b=>b=gt∨b=w.heap.size+1) wl (wp.setCell ⟨w.heap.size+1,0,none⟩ (.slice (some ⟨gt,0,none⟩) s.tabs.length cap)):=(hf.mono (fun b _ e=>.inl e)).setCell _ (fun _=>.inr rfl);refine⟨(hst1.keep (by simp) (fun b hb=>hne b (hlow b hb).2.2) (hne gt (by omega))).more (fun b hb=>hb.imp id (fun hb=>hb.imp id (fun hb=>⟨hb.1,by rw [hsz];exact hb.2.1,hb.2.2⟩))) (fun b hb=>?_),h.mkl.keep hfw (fun b hb=>⟨by omega,fun h=>h⟩),(World.cell?_of_block (hall w.heap.size (by omega) (by omega) (by omega))).trans h.b0,(World.cell?_of_block (hall w.heap.size (by omega) (by omega) (by omega))).trans h.b1,?_,?_,(World.cell?_of_block (hall (w.heap.size+2) (by omega) (by omega) (by omega))).trans h.r0,(World.frozen?_of_block (hall (w.heap.size+2) (by omega) (by omega) (by omega))).trans h.rf,h.case.keep (fun b hb=>hall b (by omega) (by omega) (by omega)),?_,h1,h2⟩
 · rw [hsz];have:=hlow b (hb.imp id (fun hb=>hb.imp id (fun hb=>⟨hb.1,by rw [←hsz];exact hb.2.1,hb.2.2⟩)));exact⟨this.1,this.2.1⟩
 · exact World.cell?_setCell_same _ _ _ ((hf.cell (by omega) (by omega)).trans h.s0)
 · rw [World.frozen?_setCell];exact(hf.frozenF (by omega) (by omega)).trans h.sf
 · have hg:=h.gr;exact⟨hfw.os.trans hg.os,hfw.tape.trans hg.tape,hfw.output.trans hg.output,Nat.le_trans hg.size hfw.size,fun b hb hne=>(hall b (by omega) (by omega) (by omega)).trans (hg.block b hb hne)⟩
end
theorem ChI.done {w wr wx:World} {B0 gt cap g:Nat} {S:Nat→Prop} {s:Sch} {A0:Option Addr} {c0':Nat} {cur:St} {l:List Chg} {A:Option Addr} {c:Nat} (h:ChI w wr B0 gt cap g S s A0 c0' cur l A c) (hgl:g<w.heap.size) (hS:∀ b,S b→b<w.heap.size∧b≠g) (hf:Fr (fun b=>b=w.heap.size+2) wr wx) :
  Mk wx B0 (fun _=>False) 53 3 (.slice A l.length c) (l.map Zan)∧StC wx (fun b=>S b∨(w.heap.size≤b∧b<B0∧b≠gt)∨Beh B0 wx (.slice A l.length c) b) gt cur∧CaseOk wx g∧w.grownBy wx (some g):=by
 have h1:=h.lo;have h2:=h.hi;have h3:=h.sz;have h4:=hf.size;have hg:=h.gr;have h5:=h.case.lt;refine⟨h.mkl.keep hf (fun b hb=>⟨by omega,fun h=>h⟩),(h.stc.fr hf (fun b hb hl=>⟨fun hb'=>?_,by omega⟩)).more (fun b hb=>?_) (fun b hb=>?_),h.case.keep (fun b hb=>hf.block b (by omega) (by omega)),⟨hf.os.trans hg.os,hf.tape.trans hg.tape,hf.output.trans hg.output,Nat.le_trans hg.size hf.size,fun b q1 q2=>(hf.block b (by omega) (by omega)).trans (hg.block b q1 q2)⟩⟩
 · rcases hb' with hb' | hb' | hb'
   · have:=hS b hb';omega
   · omega
   · have:=hb'.1;omega
 · rcases hb with hb | hb | hb
   · exact .inl hb
   · exact .inr (.inl ⟨by omega,hb.2⟩)
   · exact .inr (.inr ⟨hb.1,by have:=hb.2.1;omega,hb.2.2⟩)
 · rcases hb with hb | hb | hb
   · have:=hS b hb;omega
   · exact⟨by omega,hb.2.2⟩
   · exact⟨hb.2.1,by have:=hb.1;omega⟩
structure Mid (wr W:World) (g xb:Nat) (X:List Value):Prop where
 fr:Fr (fun b=>b=g) wr W
 case:CaseOk W g
 xc:W.heap[xb]?=some (.cells X.toArray 53 (0,0))
abbrev RowT (W:World) (xb:Nat) (A:Option Addr) (c:Nat) (r:Row):Prop:=r.length≤c∧RowS W (fun b=>xb<b∧b<W.heap.size) A r
section
variable {wr W W':World} {g xb:Nat} {X:List Value} {A:Option Addr} {c:Nat} {r:Row}
theorem Mid.calls (h:Mid wr W g xb X) (hf:Fr (fun b=>b=g) W W') (hc:CaseOk W' g) (hx:g<xb):Mid wr W' g xb X :=
 ⟨h.fr.trans hf (fun _ _ e=>e),hc,(hf.block xb (Zae h.xc) (by omega)).trans h.xc⟩
theorem Mid.below (h:Mid wr W g xb X) (hb:Below W.heap.size W W') (hx:g<xb):Mid wr W' g xb X :=
 h.calls (Fr.of_below hb) (h.case.keep (fun b hb'=>hb.block b (by have:=h.case.lt;omega))) hx
theorem Mid.set (h:Mid wr W g xb X) (k:Nat) (v:Value) (hx:g<xb) (hxb:wr.heap.size≤xb):Mid wr (W.setCell ⟨xb,k,none⟩ v) g xb (X.set k v) :=
 ⟨h.fr.setCell v (fun hl=>by omega),Zab h.case hx,Zah h.xc⟩
theorem Mid.far {Y:Nat→Prop} (h:Mid wr W g xb X) (hf:Fr Y W W') (hY:∀ b,Y b→xb<b) (hx:g<xb) (hxb:wr.heap.size≤xb):Mid wr W' g xb X :=
 ⟨h.fr.trans hf (fun b hb hy=>by have:=hY b hy;omega),h.case.keep (fun b hb=>hf.block b (by have:=h.case.lt;omega) (fun hy=>by have:=hY b hy;omega)),(hf.block xb (Zae h.xc) (fun hy=>by have:=hY xb hy;omega)).trans h.xc⟩
theorem ZeY {s:Sch} {t:Nat} {m:Int} {r:Row} (hs:GenS s) (ht:t<s.tabs.length) (h:r=[]∨ZaE s t r m=true):RowOk r:=by
 rcases h with rfl | h
 · exact⟨by simp,fun v hv=>by simp at hv⟩
 · have hl:=Zcu h;rw [Int.toNat_natCast] at hl;have h4:=(hs.tab ht).2.1;refine⟨by rw [hl];omega,fun v hv=>?_⟩;obtain⟨i,hi,rfl⟩:=List.getElem_of_mem hv;unfold ZaE at h;rw [Int.toNat_natCast] at h;simp only [Bool.and_eq_true,decide_eq_true_eq] at h;have h1:=Zcw h.2 h.1.2 i (by rw [←hl];exact hi);rw [ZbY hi] at h1;unfold Zax at h1;simp only [Bool.and_eq_true] at h1;have:=ZcB h1.1;omega
theorem RowT.step (h:RowT W xb A c r) (hf:Fr (fun b=>b=g∨b=xb) W W') (hx:g<xb):RowT W' xb A c r :=
 ⟨h.1,(h.2.keep (hf.same (fun b hb=>⟨hb.2,by have:=hb.1;omega⟩))).more (fun b hb=>⟨hb.1,Nat.lt_of_lt_of_le hb.2 hf.size⟩)⟩
theorem RowT.nil_:RowT W xb none 0 []:=⟨by simp,RowS.nil_⟩
theorem Fr.or_g (h:Fr (fun b=>b=g) W W'):Fr (fun b=>b=g∨b=xb) W W':=h.mono (fun _ _ e=>.inl e)
theorem Fr.or_set (k:Nat) (v:Value):Fr (fun b=>b=g∨b=xb) W (W.setCell ⟨xb,k,none⟩ v):=(Fr.refl _ W).setCell v (fun _=>.inr rfl)
theorem rowVals_append (a b:Row):Zak (a++b)=Zak a++Zak b:=by
 induction a with
 | nil=>rfl
 | cons v a ih=>simp [Zak,ih]
theorem ZdV:∀ (k:Nat) (r:Row),Zak (r.drop k)=(Zak r).drop (k*3)
 | 0,r=>by simp
 | k+1,[]=>by simp [Zak]
 | k+1,v :: r=>by
  have:=ZdV k r;rw [List.drop_succ_cons,this,show (k+1)*3=k*3+3 by omega];simp [Zak]
theorem owns_copied {base g' cap:Nat} {key:Row} {cur:List Value} (hr:r.length≤cap) (hcap:cap≤maxLen) (hb:base≤g') (hk:key.length≤r.length) (hcs:cur.length=cap*3) (hcur:cur.take (r.length*3)=Zak r) (h:W'.heap[g']?=some (.cells (Zak key++cur.drop (Zak key).length).toArray 51 (0,0))) :
  W'.ownsRow base 51 3 (.slice (some ⟨g',0,none⟩) (mixR key r).length cap) (mixR key r).length (Zak (mixR key r)):=by
 rw [ZcH hk];refine⟨by rw [ZaP,ZcH hk],.inr ⟨g',cap,_,rfl,hb,h,hr,hcap,?_,?_⟩⟩
 · rw [ZaP];simp [ZaP,hcs];omega
 · rw [ZaP];unfold mixR;rw [rowVals_append,ZdV,←hcur,List.drop_take];simp only [List.toList_toArray];rw [List.take_append,List.take_of_length_le (by rw [ZaP];omega),ZaP]
theorem rowOk_mix {key:Row} (hk:RowOk key) (hr:RowOk r) (hl:key.length≤r.length):RowOk (mixR key r) :=
 ⟨by rw [ZcH hl];exact hr.1,fun v hv=>by
  rcases List.mem_append.1 hv with hv | hv
  · exact hk.2 v hv
  · exact hr.2 v (List.mem_of_mem_drop hv)⟩
end
end Go.Proofs.Ytkpjjfhfbpfjpaa
