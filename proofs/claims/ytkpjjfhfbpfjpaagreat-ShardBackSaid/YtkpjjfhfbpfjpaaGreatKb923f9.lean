import Derived.Test.YtkpjjfhfbpfjpaaGreatK2f8ed1
import Derived.Test.YtkpjjfhfbpfjpaaGreatK42e91f
import Derived.Test.YtkpjjfhfbpfjpaaGreatK8dea75
import Derived.Test.YtkpjjfhfbpfjpaaGreatK9a2eb5
import Derived.Test.YtkpjjfhfbpfjpaaGreatKf807c5
import Derived.Test.YtkpjjfhfbpfjpaaGreatK122a8f
import Derived.Test.YtkpjjfhfbpfjpaaGreatK093f24
import Derived.Test.YtkpjjfhfbpfjpaaGreatKb0a16e
set_option linter.unusedVariables false
set_option linter.unusedSimpArgs false
set_option maxRecDepth 100000
set_option maxHeartbeats 8000000
namespace Go.Proofs.YtkpjjfhfbpfjpaaGreat
open Go.RowKit
theorem infoSte:(Tryz.prog.info? 33).map (fun i=>(i.zero,i.size,i.bytes))=some (some (.agg #[.slice none 0 0]),1,24):=by kernel_rfl
theorem run_make_ste (n:Nat) (hn:n≤1000) (w:World) :
  (Instr.makeSlice 63 (.int .i64 (n:Int)) (.int .i64 (n:Int))).run Tryz.prog w=.ok (.slice (some ⟨w.heap.size,0,none⟩) n n) (w.alloc (.cells (Zam n).toArray 33)):=by
 obtain⟨i0,hi,hz0,hz1,hz2⟩:=info_parts infoSte;have hr:=run_make (P:=Tryz.prog) w 63 33 i0 _ Tryz.underlying63 hi hz0 .i64 .i64 n n (by omega) (by omega) (by rw [hz2];omega) (by omega);rw [hr,hz1];simp only [Int.toNat_natCast]
 congr 3
 apply Array.ext
 · simp [size_madeCells,Zam]
 · intro i h1 h2;simp [madeCells,Zam,Value.cells,Nat.mod_one]
def qh (n:Int) (i:Nat) (t:Nat) (k:Row):Bool:=(ZbL n (t:Int) k).toNat == i
def Zcp (s:Sch) (n:Nat) (st:St):List St:=(List.range n).map fun i=>prtS s (qh n i) st
def PrtP (L:List St) (w:World) (e:Ending) (w':World):Prop:=∃ A c,e=.returned (.tuple #[.slice A L.length c,.int .i64 0])∧L.length≤c∧Sl w' (New w w') A (L.map Zda)∧Below w.heap.size w w'
def PBv (gP T k:Nat):List Value:=(List.range k).map fun i=>Value.slice (some ⟨gP+1+i,0,none⟩) T T
theorem PB_set {gP T k n:Nat} (h:k<n):(PBv gP T k++Zam (n - k)).set k (.slice (some ⟨gP+1+k,0,none⟩) T T)=PBv gP T (k+1)++Zam (n - (k+1)):=by
 obtain⟨m,hm⟩:∃ m,n - k=m+1:=⟨n - k - 1,by omega⟩;have hl:(PBv gP T k).length=k:=(by simp [PBv]);rw [hm,show n - (k+1)=m by omega];unfold Zam;rw [List.replicate_succ,List.set_append,if_neg (by omega),hl,Nat.sub_self,List.set_cons_zero];unfold PBv;rw [List.range_succ,List.map_append];simp
def LP (s:Sch) (n:Int) (st:St) (u j:Nat):Nat→Nat→List Dat:=fun i t=>if t<u then ((st.getD t []).filter fun r=>qh n i t (keyF s t r)).map Zax else if t=u then (((st.getD u []).take j).filter fun r=>qh n i u (keyF s u r)).map Zax else []
theorem LP_next {s:Sch} {n:Int} {st:St} {u j:Nat} (h:(st.getD u []).length≤j) (i t:Nat):LP s n st (u+1) 0 i t=LP s n st u j i t:=by
 unfold LP
 by_cases h1:t<u
 · rw [if_pos h1,if_pos (by omega)]
 · rw [if_neg h1]
   by_cases h2:t=u
   · subst h2;rw [if_pos rfl,if_pos (by omega),List.take_of_length_le h]
   · rw [if_neg h2,if_neg (by omega)]
     by_cases h3:t=u+1
     · rw [if_pos h3];simp
     · rw [if_neg h3]
theorem LP_step {s:Sch} {n:Int} {st:St} {u j p:Nat} {row:Row} (h:(st.getD u [])[j]?=some row) (hp:(ZbL n (u:Int) (keyF s u row)).toNat=p) (i t:Nat):LP s n st u (j+1) i t=upd (LP s n st u j) p u (LP s n st u j p u++[Zax row]) i t:=by
 by_cases ht:t=u
 · subst ht
   have e:LP s n st t (j+1) i t=LP s n st t j i t++(if p=i then [Zax row] else []):=by
    unfold LP;rw [if_neg (by omega),if_pos rfl,if_neg (by omega),if_pos rfl,List.take_add_one,h,List.filter_append,List.map_append]
    congr 1
    by_cases hi:p=i
    · simp [qh,hp,hi]
    · simp [qh,hp,hi]
   rw [e]
   by_cases hi:p=i
   · subst hi;rw [if_pos rfl,ZbA]
   · rw [if_neg hi,Zcm (by omega),List.append_nil]
 · rw [Zcm (by omega)];unfold LP
   by_cases h1:t<u
   · rw [if_pos h1,if_pos h1]
   · rw [if_neg h1,if_neg ht,if_neg h1,if_neg ht]
theorem LP_len {s:Sch} {n:Int} {st:St} {u j p:Nat} (h:j≤(st.getD u []).length):(LP s n st u j p u).length≤j:=by
 unfold LP;rw [if_neg (by omega),if_pos rfl,List.length_map];have:=List.length_filter_le (fun r=>qh n p u (keyF s u r)) ((st.getD u []).take j);rw [List.length_take] at this;omega
theorem parts_any (A0:Option Addr) (c0':Nat) (s:Sch) (n:Nat) (A:Option Addr) (ca:Nat) (st:St) (S:Nat→Prop) (w:World) (hs:TabS w S A0 s.tabs) (hst:StS w S A st) (hS:∀ b,S b→b<w.heap.size) (hn1:1≤n) (hn4:n≤4) (hsc:schF pcF s=0) (hok:StOk s 1 st) (hcnt:Zao st≤512) :
  Calls Tryz.prog 33 #[sAgg s.version A0 s.tabs.length c0',.int .i64 (n:Int),Zcf A st.length ca] w (PrtP (Zcp s n st) w):=by
 have hsl:=hs.len;have HS:=hI hs;have HST:=hI hst;have HSC:=hI hsc;have HOK:=hI hok;have HCNT:=hI hcnt;have hstt:st.length=s.tabs.length:=hok.1;have HSTT:=hI hstt;have hst8:st.length≤8:=(by have:=ZdT hsc;omega);have HCK:=hI (hok.check (m:=1) rfl hcnt);clear hs hst hsc hok hcnt hstt;obtain⟨i0,hi,hj0,hj1,hj2⟩:=info_parts infoV;obtain⟨ir,hir,hr0,hr1,hr2⟩:=info_parts infoR;obtain⟨W0,hW0⟩:∃ W0,(w.alloc (.cells #[.int .i64 s.version,.slice A0 s.tabs.length c0'] 28)).alloc (.cells #[.slice A st.length ca] 33)=W0:=⟨_,rfl⟩;have HB0:=hI (show Below w.heap.size w W0 by rw [←hW0];exact((Below.refl w.heap.size w).alloc nR _).alloc (by simp) _);have hz0:W0.heap.size≤w.heap.size+2∧w.heap.size+2≤W0.heap.size:=(by rw [←hW0];simp);obtain⟨gs,hgs⟩:∃ gs,w.heap.size=gs:=⟨_,rfl⟩;have SB:=hI (show W0.heap[gs]?=some (.cells #[.int .i64 s.version,.slice A0 s.tabs.length c0'] 28 (0,0)) by rw [←hW0,←hgs];exact(Below.heap_alloc _ _ _ (by simp)).trans (heap_alloc_new w _));have TB:=hI (show W0.heap[gs+1]?=some (.cells #[.slice A st.length ca] 33 (0,0)) by rw [←hW0,←hgs];simpa using heap_alloc_new (w.alloc (.cells #[.int .i64 s.version,.slice A0 s.tabs.length c0'] 28)) (.cells #[.slice A st.length ca] 33));have x0:W0.cell? ⟨gs,0,none⟩=some (.int .i64 s.version):=Zaa SB.out 0 _ rfl;have x1:W0.cell? ⟨gs,1,none⟩=some (.slice A0 s.tabs.length c0'):=Zaa SB.out 1 _ rfl;have x2:W0.cell? ⟨gs+1,0,none⟩=some (.slice A st.length ca):=Zaa TB.out 0 _ rfl;have hgw:w.heap.size≤gs∧gs≤w.heap.size:=(by omega);have hws:gs<W0.heap.size:=(by omega);have hws1:gs+1<W0.heap.size:=(by omega);have HSH:=hI (show Zbi s (n:Int)=0 by unfold Zbi;rw [if_neg (by omega)];exact HSC.out);go_enter Tryz.func33,Tryz.ntmps33
 go_wp2_with fail
 try rw [hW0]
 try rw [hgs]
 clear hW0 hgs;refine(Zbr A0 c0' s n S W0 (HS.out.keep (Same.of_below HB0.out hS)) (fun b hb=>by have:=hS b hb;omega)).mono ?_;rintro e w1 ⟨rfl,hb1⟩;rw [HSH.out];have HB1:=hI (HB0.out.trans (hb1.mono (by omega)));have SB1:=hI ((hb1.block gs hws).trans SB.out);have TB1:=hI ((hb1.block (gs+1) hws1).trans TB.out);have hw1:=Zac SB1.out;have hw1b:=Zac TB1.out;clear hb1 x0 x1 x2 HB0 SB TB;have x0:w1.cell? ⟨gs,0,none⟩=some (.int .i64 s.version):=Zaa SB1.out 0 _ rfl;have x1:w1.cell? ⟨gs,1,none⟩=some (.slice A0 s.tabs.length c0'):=Zaa SB1.out 1 _ rfl;have x2:w1.cell? ⟨gs+1,0,none⟩=some (.slice A st.length ca):=Zaa TB1.out 0 _ rfl
 go_wp2_with fail
 refine(ZfG pcF A0 c0' s 1 A ca st S w1 (HS.out.keep (Same.of_below HB1.out hS)) (HST.out.keep (Same.of_below HB1.out hS)) (fun b hb=>by have:=hS b hb;have:=HB1.out.size;omega) (Zcy s) (by have:=HCNT.out;omega)).mono ?_;rw [HSC.out,HCK.out];rintro e w2 ⟨rfl,hb2⟩;have HB2:=hI (HB1.out.trans (hb2.mono (by omega)));have SB2:=hI ((hb2.block gs hw1).trans SB1.out);have TB2:=hI ((hb2.block (gs+1) hw1b).trans TB1.out);have hw2:=Zac SB2.out;have hw2b:=Zac TB2.out;clear hb2 x0 x1 x2 HB1 SB1 TB1;have hmk:=run_make_ste n (by omega);go_upto_region 8 with fail
 clear hmk;obtain⟨w3,hW3⟩:∃ w3,w2.alloc (.cells (Zam n).toArray 33)=w3:=⟨_,rfl⟩;obtain⟨gP,hgP⟩:∃ gP,w2.heap.size=gP:=⟨_,rfl⟩;have hb3:Below w2.heap.size w2 w3:=(by rw [←hW3];exact(Below.refl _ _).alloc nR _);have hz3:gP+1≤w3.heap.size∧w3.heap.size≤gP+1:=(by rw [←hW3,←hgP];simp);have PB:=hI (show w3.heap[gP]?=some (.cells (PBv gP st.length 0++Zam (n - 0)).toArray 33 (0,0)) by rw [←hW3,←hgP];exact heap_alloc_new w2 _);have HB3:=hI (HB2.out.trans (hb3.mono (by omega)));have SB3:=hI ((hb3.block gs hw2).trans SB2.out);have TB3:=hI ((hb3.block (gs+1) hw2b).trans TB2.out);have hgg:gs+1<gP:=(by omega);rw [hW3]
 try rw [hgP]
 clear hW3 hgP hb3 SB2 TB2 HB2;have hmkr:=ZbV st.length (by omega)
 go_wp2_with fail
 go_loopw [33] (fun i wr=>∃ k:Nat,k≤n∧i=.int .i64 k∧Fr (fun b=>b=gP) w3 wr∧wr.heap.size≤gP+1+k∧gP+1+k≤wr.heap.size∧wr.heap[gP]?=some (.cells (PBv gP st.length k++Zam (n - k)).toArray 33 (0,0))∧∀ i,i<k→wr.heap[gP+1+i]?=some (.cells (Zam st.length).toArray 73 (0,0))) (fun i _=>n - (intOf i).toNat)
 case atStart=>exact⟨0,Nat.zero_le _,rfl,Fr.refl _ _,by omega,by omega,PB.out,fun i h=>absurd h (by omega)⟩
 case round =>
  clear PB;obtain⟨k,hk,rfl,hfr,hza,hzb,hpb,hbl⟩:=hrel;have HFR:=hI hfr;have HPB:=hI hpb;have HBL:=hI hbl;clear hfr hpb hbl;have TB4:=hI ((HFR.out.block (gs+1) (by omega) (by omega)).trans TB3.out);have x2:wr.cell? ⟨gs+1,0,none⟩=some (.slice A st.length ca):=Zaa TB4.out 0 _ rfl;have hw4:=Zac TB4.out
  by_cases hkn:k<n
  · have hdk:decide (k<n)=true:=(by simp [hkn]);have hk0:(0:Int)≤(k:Int):=(by omega);have hki:(k:Int)<(n:Int):=(by omega);obtain⟨wa,hwa⟩:∃ wa,wr.alloc (.cells (Zam st.length).toArray 73)=wa:=⟨_,rfl⟩;obtain⟨gq,hgq⟩:∃ gq,wr.heap.size=gq:=⟨_,rfl⟩;have hba:Below wr.heap.size wr wa:=(by rw [←hwa];exact(Below.refl _ _).alloc nR _);have QB:=hI (show wa.heap[gq]?=some (.cells (Zam st.length).toArray 73 (0,0)) by rw [←hwa,←hgq];exact heap_alloc_new wr _);have hzq:wa.heap.size≤gq+1∧gq+1≤wa.heap.size:=(by rw [←hwa,←hgq];simp);have PA:=hI ((hba.block gP (Zac HPB.out)).trans HPB.out);have HBA:=hI hba;have hgqe:gP+1+k=gq:=(by omega)
    have g2:wa.cell? ⟨gP,k,none⟩=some (.slice none 0 0):=by
     have h9:=Zaa PA.out k (.slice none 0 0) (by
      show (PBv gP st.length k++Zam (n - k))[k]?=_;have hl:(PBv gP st.length k).length=k:=(by simp [PBv]);obtain⟨m,hm⟩:∃ m,n - k=m+1:=⟨n - k - 1,by omega⟩;rw [List.getElem?_append_right (by omega),hl,Nat.sub_self,hm];rfl)
     rwa [Nat.zero_add] at h9
    have g3:wa.frozen? ⟨gP,k,none⟩=false:=(by simp [World.frozen?,PA.out]);have hgl:=Zac PA.out;have HGQ:=hI hgqe;clear hgqe
    go_wp2_with fail
    try rw [hwa]
    try rw [hgq]
    have HPN:=hI (show (wa.setCell ⟨gP,k,none⟩ (.slice (some ⟨gq,0,none⟩) st.length st.length)).heap[gP]?=some (.cells (PBv gP st.length (k+1)++Zam (n - (k+1))).toArray 33 (0,0)) by
     rw [←PB_set hkn,HGQ.out];exact Zag PA.out)
    have HFN:=hI ((HFR.out.trans (Fr.of_below HBA.out) (Y:=fun _=>False) (fun b hb h=>h.elim)).setCell (.slice (some ⟨gq,0,none⟩) st.length st.length) (g:=gP) (o:=k) (fun _=>rfl))
    have HBN:=hI (show ∀ i,i<k+1→(wa.setCell ⟨gP,k,none⟩ (.slice (some ⟨gq,0,none⟩) st.length st.length)).heap[gP+1+i]?=some (.cells (Zam st.length).toArray 73 (0,0)) from fun i hi'=>by
     refine(Below.heap_setCell wa ⟨gP,k,none⟩ _ _ (by show gP+1+i≠gP;omega)).trans ?_;rcases Nat.lt_or_ge i k with h | h
     · exact(HBA.out.block _ (by omega)).trans (HBL.out i h)
     · obtain rfl:i=k:=(by omega);rw [HGQ.out];exact QB.out)
    clear hwa hgq hba g2 g3 x2;go_roundw
    case rel=>exact⟨k+1,by omega,by go_num,HFN.out,by have:=HGQ.out;simp;omega,by have:=HGQ.out;simp;omega,HPN.out,HBN.out⟩
    case measure=>(simp [intOf];omega)
  · have hdk:decide (k<n)=false:=(by simp;omega);obtain rfl:k=n:=(by omega);clear hmkr;obtain⟨wm,rfl⟩:∃ wm:World,wm=wr:=⟨_,rfl⟩;have HPB:=hI (show wm.heap[gP]?=some (.cells (PBv gP st.length k).toArray 33 (0,0)) by have h9:=HPB.out;rwa [show Zam (k - k)=[] by simp [Zam],List.append_nil] at h9);have HG0:=hI (Grid.start (w:=wm) (B0:=wm.heap.size) (n:=k) (T:=st.length) (G:=fun i=>gP+1+i) (TT:=73) (e:=42) (size:=1) (S0:=fun _=>False) (fun i hi'=>HBL.out i hi') (fun i i' h1 h2 h=>by omega) (fun i hi'=>by show gP+1+i<_;omega) (fun b hb=>hb.elim) nR);have HBM:=hI (show Below w.heap.size w wm from HB3.out.trans (HFR.out.below (n:=w.heap.size) (by omega) (fun b hb=>by omega)));have SB4:=hI ((HFR.out.block gs (by omega) (by omega)).trans SB3.out);clear HFR HBL SB3 TB3 HB3
    go_wp2_with fail
    clear x2
    go_loopw [48] (fun i wr=>∃ (u:Nat) (V:Nat→Nat→Value),u≤st.length∧i=.int .i64 u∧Fr (fun b=>gP<b) wm wr∧Grid wr wm.heap.size 42 73 1 (fun _=>False) k st.length (fun i=>gP+1+i) V V (LP s k st u 0)) (fun i _=>st.length - (intOf i).toNat)
    case atStart=>exact⟨0,_,Nat.zero_le _,rfl,Fr.refl _ _,HG0.out.congr (fun i j _ _=>by unfold LP;split;{ omega };split<;>simp)⟩
    case round =>
     clear HG0;obtain⟨u,V,hu,rfl,hfr,hgr⟩:=hrel;have HFR:=hI hfr;have HGR:=hI hgr;have hsz:=hfr.size;clear hfr hgr
     by_cases hul:u<st.length
     · have hdu:decide (u<st.length)=true:=(by simp [hul]);have hu0:(0:Int)≤(u:Int):=(by omega);have hui:(u:Int)<(st.length:Int):=(by omega);have htl:u<s.tabs.length:=(by rw [←HSTT.out];exact hul);have HSM:=hI (show Same S w wr from fun b hb=>(HFR.out.block b (by have:=hS b hb;have:=HBM.out.size;omega) (by have:=hS b hb;omega)).trans (HBM.out.block b (hS b hb)));obtain⟨bt,ot,rfl,hbt,A2,c2,e0,e1,e2⟩:=(show StS wr S A st from HST.out.keep HSM.out).at_ hul;have HRI:=hI e2;have hbtl:bt<wr.heap.size:=(by have:=hS bt hbt;have:=HBM.out.size;omega);have HRO:=hI ((HOK.out.2 u hul).1);have hlI:(st.getD u []).length≤512:=(by have:=Zbc st u;have:=HCNT.out;omega);have HLS:=hI (fun j (row:Row) (h:(st.getD u [])[j]?=some row) p (hp:(ZbL (k:Int) (u:Int) (keyF s u row)).toNat=p)=>LP_step (s:=s) (n:=(k:Int)) h hp);have HLN:=hI (fun j (h:(st.getD u []).length≤j) (a q:Nat)=>LP_next (s:=s) (n:=(k:Int)) h a q);have HLL:=hI (fun j p (h:j≤(st.getD u []).length)=>LP_len (s:=s) (n:=(k:Int)) (p:=p) h);have hkt:=Zcv HSC.out htl;clear e1 e2;obtain⟨LI,hLI⟩:∃ LI,st.getD u []=LI:=⟨_,rfl⟩;rw [hLI] at e0 HRI HRO hlI HLS HLN HLL;clear hLI
       go_wp2_with fail
       go_loopw [55] (fun i wr=>∃ (j:Nat) (V:Nat→Nat→Value),j≤LI.length∧i=.int .i64 j∧Fr (fun b=>gP<b) wm wr∧Grid wr wm.heap.size 42 73 1 (fun _=>False) k st.length (fun i=>gP+1+i) V V (LP s k st u j)) (fun i _=>LI.length - (intOf i).toNat)
       case atStart=>exact⟨0,V,Nat.zero_le _,rfl,HFR.out,HGR.out⟩
       case round =>
        clear HFR HGR e0;obtain⟨j,V,hj,rfl,hfr,hgr⟩:=hrel;have HFR:=hI hfr;have HGR:=hI hgr;have hsz2:=hfr.size;clear hfr hgr;have HSM2:=hI (show Same S w wr from fun b hb=>(HFR.out.block b (by have:=hS b hb;have:=HBM.out.size;omega) (by have:=hS b hb;omega)).trans (HBM.out.block b (hS b hb)))
        by_cases hjl:j<LI.length
        · have hdj:decide (j<LI.length)=true:=(by simp [hjl]);have hj0':(0:Int)≤(j:Int):=(by omega);have hji:(j:Int)<(LI.length:Int):=(by omega);obtain⟨b5,o5,rfl,hb5,A5,c5,f1,f2,f3⟩:=RowsS.at_ (show RowsS wr S A2 LI from Sl.keep HRI.out (fun b hb=>(HSM2.out b hb).trans (HSM.out b hb).symm)) hjl;have HLP:=hI (HLS.out j (LI.getD j []) (by simp [List.getD,hjl]));have HFT:=hI (HRO.out (LI.getD j []) (by rw [show LI.getD j []=LI[j] by simp [List.getD,hjl]];exact List.getElem_mem hjl));obtain⟨row,hrow⟩:∃ row,LI.getD j []=row:=⟨_,rfl⟩;rw [hrow] at f1 f2 f3 HLP HFT;clear hrow;have hrll:=Zci HFT.out;rw [Int.toNat_natCast] at hrll;have hrl0:0<row.length:=(by omega);have hrl8:row.length≤8:=(by omega);have HVR:=hI (Zdx HFT.out);have hlb5:b5<wr.heap.size:=(by have:=hS b5 hb5;have:=HBM.out.size;omega);have HRW:=hI f3;have hca:row.length≤c5:=f2;have SB5:=hI ((HFR.out.block gs (by omega) (by omega)).trans SB4.out);have s0:wr.cell? ⟨gs,0,none⟩=some (.int .i64 s.version):=Zaa SB5.out 0 _ rfl;have s1:wr.cell? ⟨gs,1,none⟩=some (.slice A0 s.tabs.length c0'):=Zaa SB5.out 1 _ rfl;have hgs5:=Zac SB5.out;clear hrll f3
          go_wp2_with fail
          refine(ZeU A0 c0' s u A5 c5 row S wr (HS.out.keep HSM2.out) HRW.out hca (fun b hb=>by have:=hS b hb;have:=HBM.out.size;omega) htl hkt.2.1 hrl0).mono ?_;rintro e w4 ⟨A4,c4,rfl,h4,hb4⟩;have HK4:=hI (show RowS w4 (fun b=>b<w4.heap.size) A4 (keyF s u row) from (ZaI (ZbJ (Zcc HVR.out) (by have:=Zeu s (u:Int) row;omega)) h4).more (fun b hb=>hb.2));have HB4:=hI hb4;have f1:=c9Q hb4 hlb5 f1;have hz4:=hb4.size;clear h4 hb4 s0 s1
          go_wp2_with fail
          refine(Zdi (k:Int) (u:Int) A4 c4 (keyF s u row) (fun b=>b<w4.heap.size) w4 (by omega) (by omega) HK4.out (fun b hb=>hb) (Zcc HVR.out) (by have:=Zeu s (u:Int) row;omega)).mono ?_;rintro e w5 ⟨rfl,hb5'⟩;have HB5:=hI (HB4.out.trans (hb5'.mono hz4));have f1:=c9J hb5' f1;have hz5:=HB5.out.size;clear hb5' HB4 HK4;have hhr:=ZbK (n:=(k:Int)) (t:=(u:Int)) (key:=keyF s u row) (by omega);obtain⟨p,hp⟩:=Int.eq_ofNat_of_zero_le hhr.1;rw [hp] at hhr;have hpk:p<k:=(by omega);have HLQ:=hI (HLP.out p (by rw [hp];exact Int.toNat_natCast p));rw [hp];have hp0:(0:Int)≤(p:Int):=(by omega);have hpi:(p:Int)<(k:Int):=(by omega);have HPB5:=hI ((HB5.out.block gP (by have:=Zac HPB.out;omega)).trans ((HFR.out.block gP (Zac HPB.out) (by omega)).trans HPB.out))
          have q0:w5.cell? ⟨gP,p,none⟩=some (.slice (some ⟨gP+1+p,0,none⟩) st.length st.length):=by
           have h9:=Zaa HPB5.out p (.slice (some ⟨gP+1+p,0,none⟩) st.length st.length) (by show (PBv gP st.length k)[p]?=_;simp [PBv,hpk]);rwa [Nat.zero_add] at h9
          have hgP5:=Zac HPB5.out;have HGR:=hI (HGR.out.below HB5.out);have HFR:=hI (HFR.out.trans (Fr.of_below HB5.out) (Y:=fun _=>False) (fun b hb h=>h.elim));have hLL:=HLL.out j p hj;obtain⟨AV,cV,hAV⟩:=HGR.out.form (i:=p) (j:=u) hpk hul;obtain⟨g2,g3⟩:=HGR.out.cell (i:=p) (j:=u) hpk hul;obtain⟨m9,hm9⟩:∃ m9,(LP s k st u j p u).length=m9:=⟨_,rfl⟩;rw [hAV,hm9] at g2;rw [hm9] at hAV hLL;have HM9:=hI hm9;have HAV:=hI hAV;have HOW:=hI (show ∀ b,(V p u).ownBlock=some b→wm.heap.size≤b∧b<w5.heap.size from fun b e=>(HGR.out.own p u hpk hul).lt e);have HSM5:=hI (show Same S w w5 from fun b hb=>(HB5.out.block b (by have:=hS b hb;have:=HBM.out.size;omega)).trans (HSM2.out b hb));obtain⟨rl,hrl⟩:∃ rl,row.length=rl:=⟨_,rfl⟩;have HRL:=hI hrl;obtain⟨b6,o6,e6,hb6,hc6⟩:=(HRW.out.keep (w':=w5) (fun b hb=>(HSM5.out b hb).trans (HSM2.out b hb).symm)).vals (by omega);subst e6;have HC6:=hI hc6;have HOKR:=hI HRW.out.ok;have hlb6:b6<w5.heap.size:=(by have:=hS b6 hb6;have:=HBM.out.size;omega);rw [hrl] at f1 hca hrl0 hrl8 ⊢;obtain⟨gq,hgq⟩:∃ gq,gP+1+p=gq:=⟨_,rfl⟩;have HGQ:=hI hgq;rw [hgq] at q0;have g2:w5.cell? ⟨gq,u,none⟩=some (.slice AV m9 cV):=(by rw [←hgq];exact g2);have g3:w5.frozen? ⟨gq,u,none⟩=false:=(by rw [←hgq];exact g3);have hgql:gq<wm.heap.size:=(by omega);have hgl:gq<w5.heap.size:=(by omega);clear hAV hm9 hrl hc6 hgq hp
          go_wp2_with fail
          clear q0 f1;refine tS (fun w'=>w'.frozen? ⟨gq,u,none⟩=false∧w'.cell? ⟨gq,u,none⟩=some (.slice AV m9 cV)) 11 12 fun Q' HQ HP=>?_;obtain⟨wd,hwd⟩:∃ wd,w5.drew=wd:=⟨_,rfl⟩;have HBD:=hI (show Below w5.heap.size w5 wd by rw [←hwd];exact(Below.refl _ w5).drew);have hwz:wd.heap.size≤w5.heap.size∧w5.heap.size≤wd.heap.size:=(by rw [←hwd];exact⟨Nat.le_refl _,Nat.le_refl _⟩);have HGX:=hI (HGR.out.below HBD.out);have g2:=c9Q HBD.out hgl g2;have g3:=(HBD.out.frozen (p:=⟨gq,u,none⟩) hgl).trans g3
          have HC6:=hI (show ∀ q u,(Zak row)[q]?=some u→wd.cell? ((⟨b6,o6,none⟩:Addr).add q)=some u from fun q u hu=>by
           have h9:=HC6.out q u hu;rw [ZcW] at h9 ⊢;exact c9Q HBD.out hlb6 h9)
          have hgl:gq<wd.heap.size:=(by omega);rw [hwd];clear hwd;refine tX 0 70 1 71 2 72 3 73 (bA 12 15) HP.out ⟨g3,g2⟩ ?_;refine tW 4 74 5 75 (bA 12 63) HP.out ⟨g3,g2⟩ ?_;refine tJ 6 76 (bA 12 127) HP.out ⟨g3,g2⟩ ?_;refine anyT_one (i:=7) (o:=⟨some 77,_,_,_,_,_⟩) (L':=(bA 12 255)) rfl (by kernel_rfl) (by kernel_rfl) (fun K hK=>?_);refine step_append_lies _ (by rfl) (.const (.slice none 0 0)) (.tmp 76) 42 (by rfl) wd.heap.size 89 i0 _ 3 32 Tryz.underlying42 hi hj0 hj1 hj2 rfl (by decide) (.slice none 0 0) 0 [] (by rfl) (World.ownsRow_nil _ _ _ _) ⟨b6,o6,none⟩ rl c5 (Zak row) (by rfl) (by rw [Zaz,HRL.out]) HC6.out (Zbv row) hrl0 (by unfold maxLen;omega) (by omega) nR wd.heap.size rfl ?_;intro gx cx w4' hown hgr hat hlt;rw [List.nil_append,Nat.zero_add] at hown;have HO4:=hI hown;have hb4:Below wd.heap.size wd w4':=⟨hgr.os,hgr.tape,hgr.output,hgr.size,fun b hb=>hgr.block b hb (by simp [Value.ownBlock])⟩;have HB6:=hI (show Below w5.heap.size w5 w4' from HBD.out.trans (hb4.mono (by omega)));have HG4:=hI (HGX.out.below hb4);have k2:=c9Q hb4 hgl g2;have k3:=(hb4.frozen (p:=⟨gq,u,none⟩) hgl).trans g3;have hz4':=hb4.size;have hgl4:gq<w4'.heap.size:=(by omega);have hcx:=ZdJ hown rfl;clear hown hgr hat hlt hb4;refine hK _ _ (fun _=>⟨k3,k2⟩) ?_;clear hK K;rw [Nat.zero_add]
          try simp only [Act.put,psA,psB,psC]
          refine tQ 8 (some 78) (bA 12 511) fun K HK=>?_;go_simp;have l3:(w4'.alloc (.cells #[.slice (some ⟨gx,0,none⟩) rl cx] 42)).frozen? ⟨gq,u,none⟩=_:=(Zby hgl4).trans k3;have l2:(w4'.alloc (.cells #[.slice (some ⟨gx,0,none⟩) rl cx] 42)).cell? ⟨gq,u,none⟩=_:=(Zah hgl4).trans k2;refine HK.out _ _ (fun _=>⟨l3,l2⟩) ?_;clear HK K
          try simp only [Act.put,psA,psB,psC]
          refine anyT_one (i:=9) (o:=⟨some 79,_,_,_,_,_⟩) (L':=(bA 12 1023)) rfl (by kernel_rfl) (by kernel_rfl) (fun K hK=>?_)
          refine ZbS (by rfl) (.tmp 75) (.tmp 78) 73 (by rfl) ir _ 24 Tryz.underlying73 hir hr0 hr1 hr2 rfl (by decide) w4' HG4.out (i:=p) (j:=u) hpk hul (by rw [HAV.out];rfl) (Zax row) #[.slice (some ⟨gx,0,none⟩) rl cx] (by
           have h9:=ZaI HOKR.out (show w4'.ownsRow wd.heap.size 89 3 (.slice (some ⟨gx,0,none⟩) row.length cx) row.length (Zak row) by rw [HRL.out];exact HO4.out)
           have h8:=Zbt (c:=cx) (by rw [HRL.out];exact hcx) (h9.more (S':=Oth (fun _=>False) w4' wm.heap.size k st.length V) (fun b hb=>Or.inr ⟨by have:=hb.1;omega,hb.2,fun i' j' hi' hj' e=>by
            have h7:=((HGR.out.own i' j' hi' hj').lt e.symm).2;have:=hb.1;omega⟩))
           rw [HRL.out] at h8;exact h8) (by simp [Zax,Dat.Plain]) rfl 1 (by rfl) (by rw [HM9.out];omega) (by rw [HM9.out];omega) ?_
          rw [HM9.out];intro g7 c7 w7 hg7 hr7;have HG7:=hI hg7;have HR7:=hI hr7;have n2:=(hg7.cell (i:=p) (j:=u) hpk hul).1;rw [HAV.out] at n2;have n3:=(hg7.cell (i:=p) (j:=u) hpk hul).2;have hgqe:=HGQ.out;simp only [hgqe] at n2 n3;clear hg7 hr7 hgqe;refine hK _ _ (fun _=>⟨n3,n2⟩) ?_;clear hK K
          try simp only [Act.put,psA,psB,psC]
          refine tJ 10 80 (bA 12 2047) HP.out ⟨n3,n2⟩ ?_;refine tQ 11 none (bA 12 4095) fun K HK=>?_;go_simp;refine HK.out _ _ (fun h=>absurd rfl h) ?_;clear HK K;refine tE HQ ?_;clear HQ HP Q';have HGN:=hI (HG7.out.store (i:=p) (j:=u) hpk hul (.slice (some ⟨g7,0,none⟩) (m9+1) c7));have HFN:=hI (show Fr (fun b=>gP<b) wm (w7.setCell ⟨gq,u,none⟩ (.slice (some ⟨g7,0,none⟩) (m9+1) c7)) from ((HFR.out.trans (Fr.of_below HB6.out) (Y:=fun _=>False) (fun b hb h=>h.elim)).trans (Y:=fun b=>wm.heap.size≤b) (Fr.of_grown HR7.out (fun b hb e=>(HOW.out b e.symm).1)) (fun b hb h=>absurd hb (by omega))).setCell _ (fun _=>by have:=HGQ.out;show gP<gq;omega));clear HG7 HR7 HAV g2 g3 HB6
          go_wp2_with fail
          go_roundw
          case rel =>
           have h9:=HGN.out.congr (L':=LP s k st u (j+1)) (fun a q ha hq=>HLQ.out a q);rw [HGQ.out] at h9;exact⟨j+1,upd V p u (.slice (some ⟨g7,0,none⟩) (m9+1) c7),by omega,by go_num,HFN.out,h9⟩
          case measure=>(simp [intOf];omega)
        · have hdj:decide (j<LI.length)=false:=(by simp;omega);have HGN:=hI (HGR.out.congr (fun a q _ _=>HLN.out j (by omega) a q))
          go_wp2_with fail
          go_roundw
          case rel=>first | exact⟨u+1,V,by omega,by go_num,HFR.out,HGN.out⟩ | ((repeat apply Exists.intro);exact⟨⟨u+1,V,by omega,by go_num,HFR.out,HGN.out⟩,rfl⟩)
          case measure=>(simp [intOf];omega)
     · have hdu:decide (u<st.length)=false:=(by simp;omega);obtain rfl:u=st.length:=(by omega)
       have HEND:=hI (show PrtP (Zcp s k st) w (.returned (.tuple #[.slice (some ⟨gP,0,none⟩) k k,.int .i64 0])) wr by
        have hlen:(Zcp s k st).length=k:=(by simp [Zcp]);refine⟨some ⟨gP,0,none⟩,k,by rw [hlen],by rw [hlen];exact Nat.le_refl _,?_,HBM.out.trans (HFR.out.below (n:=w.heap.size) (by have:=HBM.out.size;omega) (fun b hb=>by omega))⟩;have hgp:wr.heap[gP]?=some (.cells (PBv gP st.length k).toArray 33 (0,0)):=(HFR.out.block gP (Zac HPB.out) (by omega)).trans HPB.out
        have key:∀ q,q≤k→Dat.ValsAll wr (New w wr) (((List.range q).map fun i=>prtS s (qh k i) st).map Zda) (PBv gP st.length q):=by
         intro q;induction q with
         | zero=>intro _;simp only [List.range_zero,List.map_nil,PBv];unfold Dat.ValsAll;rfl
         | succ q ih =>
          intro hq;unfold PBv;rw [List.range_succ,List.map_append,List.map_append,List.map_append];simp only [List.map_cons,List.map_nil];refine Zbf (ih (by omega)) (Zba ?_)
          obtain⟨vs,hv1,hv2⟩:=HGR.out.row (i:=q) (by omega) (fun t ht=>by
           unfold LP;rw [if_pos ht,Zae (n:=24) (fun _=>rfl)];have h9:=List.length_filter_le (fun r=>qh k q t (keyF s t r)) (st.getD t []);have h8:=Zbc st t;have:=HCNT.out;omega) (S':=New w wr) (fun b hb=>by
           rcases hb with hb | hb
           · exact hb.elim
           · exact⟨by have:=HBM.out.size;omega,hb.2⟩)
          have hle:(List.range st.length).map (fun t=>Dat.slice (LP s k st st.length 0 q t))=(prtS s (qh k q) st).map Zaw:=by
           unfold prtS;rw [List.map_map];refine List.map_congr_left (fun t ht=>?_);unfold LP;rw [if_pos (List.mem_range.1 ht)];rfl
          rw [hle] at hv2;unfold Zda Dat.Vals;have hpl:((prtS s (qh k q) st).map Zaw).length=st.length:=(by rw [List.length_map,Zco]);refine⟨some ⟨gP+1+q,0,none⟩,st.length,by rw [hpl],by rw [hpl];exact Nat.le_refl _,Sl.of_vals (by rw [Zae (n:=24) (fun _=>rfl),Zco];omega) hv2 (fun _=>⟨gP+1+q,0,rfl,⟨by omega,by have:=Zac hv1;exact this⟩,fun j u' hu'=>Zaa hv1 j u' hu'⟩)⟩
        exact Sl.of_vals (by rw [Zae (n:=24) (fun _=>rfl),hlen];omega) (key k nR) (fun _=>⟨gP,0,rfl,⟨by omega,Zac hgp⟩,fun j u' hu'=>Zaa hgp j u' hu'⟩))
       go_wp2_with fail
       exact bodyPost_ret (v:=.tuple #[.slice (some ⟨gP,0,none⟩) k k,.int .i64 0]) (by simp [results,Tryz.results33,go_sem]) rfl HEND.out
theorem Zfv:∀ st:St,Zao st=(st.map List.length).sum
 | []=>rfl
 | l :: r=>by simp only [Zao,List.map_cons,List.sum_cons,Zfv r]
theorem ZeC {α:Type} {f g h:α→Nat} (e:∀ x,f x=g x+h x):∀ L:List α,(L.map f).sum=(L.map g).sum+(L.map h).sum
 | []=>rfl
 | x :: r=>by simp only [List.map_cons,List.sum_cons,ZeC e r,e x];omega
theorem ZcJ {α:Type} {h:α→Nat} {i:Nat}:∀ l:List α,(l.filter fun r=>decide (h r<i+1)).length=(l.filter fun r=>decide (h r<i)).length+(l.filter fun r=>h r == i).length
 | []=>rfl
 | x :: r=>by
  have ih:=ZcJ (h:=h) (i:=i) r;simp only [List.filter_cons]
  by_cases h1:h x<i
  · have h2:h x<i+1:=(by omega);have h3:(h x == i)=false:=(by simp;omega);simp only [h1,h2,h3,decide_true,if_true,Bool.false_eq_true,if_false,List.length_cons];omega
  · by_cases h2:h x=i
    · simp only [h2,Nat.lt_irrefl,decide_false,decide_true,beq_self_eq_true,if_true,Bool.false_eq_true,if_false,List.length_cons,Nat.lt_succ_self];omega
    · have h4:¬ h x<i+1:=(by omega);have h3:(h x == i)=false:=(by simp;omega);simp only [h1,h4,h3,decide_false,Bool.false_eq_true,if_false];omega
theorem ZeV (s:Sch) (q:Nat→Row→Bool) (st:St):Zao (prtS s q st)=((List.range st.length).map fun t=>((st.getD t []).filter fun r=>q t (keyF s t r)).length).sum:=by
 rw [Zfv];unfold prtS;rw [List.map_map];rfl
def cntJ (s:Sch) (n:Int) (st:St) (i:Nat):Nat:=Zao (prtS s (fun t k=>decide ((ZbL n (t:Int) k).toNat<i)) st)
theorem cntJ_zero (s:Sch) (n:Int) (st:St):cntJ s n st 0=0:=by
 unfold cntJ;rw [ZeV]
 have e:∀ L:List Nat,(L.map fun t=>((st.getD t []).filter fun r=>decide ((ZbL n (t:Int) (keyF s t r)).toNat<0)).length).sum=0:=by
  intro L;induction L with
  | nil=>rfl
  | cons x r ih=>rw [List.map_cons,List.sum_cons,ih];simp
 exact e _
theorem cntJ_next (s:Sch) (n:Int) (st:St) (i:Nat):cntJ s n st (i+1)=cntJ s n st i+Zao (prtS s (qh n i) st):=by
 unfold cntJ;rw [ZeV,ZeV,ZeV];exact ZeC (fun (t:Nat)=>ZcJ (h:=fun r=>(ZbL n (t:Int) (keyF s (t:Int) r)).toNat) (st.getD t [])) (List.range st.length)
theorem cntJ_le (s:Sch) (n:Int) (st:St) (i:Nat):cntJ s n st i≤Zao st:=Zeq _ _
theorem Zch {s:Sch} {n i:Nat} {st:St} (h:i<n):(Zcp s n st).getD i []=prtS s (qh n i) st:=by simp [Zcp,List.getD,h]
theorem ZcC (s:Sch) (n:Nat) (st:St):(Zcp s n st).length=n:=by simp [Zcp]
def JoinP (st:St) (w:World) (e:Ending) (w':World):Prop:=∃ A c,e=.returned (.tuple #[Zcf A st.length c,.int .i64 0])∧st.length≤c∧StS w' (New w w') A st∧Below w.heap.size w w'
theorem join_any (A0:Option Addr) (c0':Nat) (s:Sch) (AP:Option Addr) (n cp:Nat) (st:St) (S:Nat→Prop) (w:World) (hs:TabS w S A0 s.tabs) (hP:Sl w S AP ((Zcp s n st).map Zda)) (hS:∀ b,S b→b<w.heap.size) (hn1:1≤n) (hn4:n≤4) (hsc:schF pcF s=0) (hok:StOk s 1 st) (hcnt:Zao st≤512) :
  Calls Tryz.prog 36 #[sAgg s.version A0 s.tabs.length c0',.slice AP n cp] w (JoinP st w):=by
 have hsl:=hs.len;have HS:=hI hs;have HPP:=hI hP;have HSC:=hI hsc;have HOK:=hI hok;have HCNT:=hI hcnt;have hstt:st.length=s.tabs.length:=hok.1;have HSTT:=hI hstt;have hst8:st.length≤8:=(by have:=ZdT hsc;omega)
 have HPK:=hI (show ∀ i,i<n→Zct 0 s 1 (prtS s (qh n i) st)=0∧Zao (prtS s (qh n i) st)≤512 from fun i _=>by
  have h9:Zao (prtS s (qh n i) st)≤512:=(by have:=Zeq (s:=s) (qh n i) st;omega);exact⟨(ZdH (qh n i) hok).check (m:=1) rfl h9,h9⟩)
 clear hs hP hsc hok hcnt hstt;obtain⟨W0,hW0⟩:∃ W0,(w.alloc (.cells #[.int .i64 s.version,.slice A0 s.tabs.length c0'] 28)).alloc (.cells #[.slice none 0 0] 33)=W0:=⟨_,rfl⟩;have HB0:=hI (show Below w.heap.size w W0 by rw [←hW0];exact((Below.refl w.heap.size w).alloc nR _).alloc (by simp) _);have hz0:W0.heap.size≤w.heap.size+2∧w.heap.size+2≤W0.heap.size:=(by rw [←hW0];simp);obtain⟨gs,hgs⟩:∃ gs,w.heap.size=gs:=⟨_,rfl⟩;have SB:=hI (show W0.heap[gs]?=some (.cells #[.int .i64 s.version,.slice A0 s.tabs.length c0'] 28 (0,0)) by rw [←hW0,←hgs];exact(Below.heap_alloc _ _ _ (by simp)).trans (heap_alloc_new w _));have TB:=hI (show W0.heap[gs+1]?=some (.cells #[.slice none 0 0] 33 (0,0)) by rw [←hW0,←hgs];simpa using heap_alloc_new (w.alloc (.cells #[.int .i64 s.version,.slice A0 s.tabs.length c0'] 28)) (.cells #[.slice none 0 0] 33));have x0:W0.cell? ⟨gs,0,none⟩=some (.int .i64 s.version):=Zaa SB.out 0 _ rfl;have x1:W0.cell? ⟨gs,1,none⟩=some (.slice A0 s.tabs.length c0'):=Zaa SB.out 1 _ rfl;have hgw:w.heap.size≤gs∧gs≤w.heap.size:=(by omega);have hws:gs<W0.heap.size:=(by omega);have hws1:gs+1<W0.heap.size:=(by omega);have HSH:=hI (show Zbi s (n:Int)=0 by unfold Zbi;rw [if_neg (by omega)];exact HSC.out);go_enter Tryz.func36,Tryz.ntmps36
 go_wp2_with fail
 try rw [hW0]
 try rw [hgs]
 clear hW0 hgs;refine(Zbr A0 c0' s n S W0 (HS.out.keep (Same.of_below HB0.out hS)) (fun b hb=>by have:=hS b hb;omega)).mono ?_;rintro e w1 ⟨rfl,hb1⟩;rw [HSH.out];have HB1:=hI (HB0.out.trans (hb1.mono (by omega)));have SB1:=hI ((hb1.block gs hws).trans SB.out);have TB1:=hI ((hb1.block (gs+1) hws1).trans TB.out);have hw1:=Zac SB1.out;have hw1b:=Zac TB1.out;clear hb1 x0 x1 HB0 SB TB
 go_wp2_with fail
 go_loopw [29] (fun i wr=>∃ k:Nat,k≤n∧i=.int .i64 k∧Below w1.heap.size w1 wr) (fun i _=>n - (intOf i).toNat)
 case atStart=>exact⟨0,Nat.zero_le _,rfl,Below.refl _ _⟩
 case round =>
  obtain⟨k,hk,rfl,hbr⟩:=hrel;have HBR:=hI hbr;have hsz:=hbr.size;clear hbr;have HBW:=hI (HB1.out.trans (HBR.out.mono (by omega)));have SB2:=hI ((HBR.out.block gs hw1).trans SB1.out);have s0:wr.cell? ⟨gs,0,none⟩=some (.int .i64 s.version):=Zaa SB2.out 0 _ rfl;have s1:wr.cell? ⟨gs,1,none⟩=some (.slice A0 s.tabs.length c0'):=Zaa SB2.out 1 _ rfl;have hgsl:=Zac SB2.out
  by_cases hkn:k<n
  · have hdk:decide (k<n)=true:=(by simp [hkn]);have hk0:(0:Int)≤(k:Int):=(by omega);have hki:(k:Int)<(n:Int):=(by omega);obtain⟨bp,op,rfl,hbp,A',c',d0,d1,d2⟩:=Zhm (show Sl wr S AP ((Zcp s n st).map Zda) from Sl.keep HPP.out (Same.of_below HBW.out hS)) (k:=k) (by rw [ZcC];exact hkn);rw [Zch hkn] at d0 d1 d2;obtain⟨hck,hcn⟩:=HPK.out k hkn;have HCK:=hI hck;have HCN:=hI hcn;have HPS:=hI d2;have hbpl:bp<wr.heap.size:=(by have:=hS bp hbp;have:=HBW.out.size;omega);clear d1 d2 hck hcn;obtain⟨P,hPe⟩:∃ P,prtS s (qh n k) st=P:=⟨_,rfl⟩;rw [hPe] at d0 HCK HCN HPS;clear hPe;go_upto_region 7 with fail
    obtain⟨w2,hw2⟩:∃ w2,wr.alloc (.cells #[.slice A' P.length c'] 33)=w2:=⟨_,rfl⟩;have X0:=hI (show w2.heap[wr.heap.size]?=some (.cells #[.slice A' P.length c'] 33 (0,0)) by rw [←hw2];exact heap_alloc_new wr _);have hb2:Below wr.heap.size wr w2:=(by rw [←hw2];exact(Below.refl _ _).alloc nR _);have x0:w2.cell? ⟨wr.heap.size,0,none⟩=some (.slice A' P.length c'):=Zaa X0.out 0 _ rfl;have s0:=c9Q hb2 hgsl s0;have s1:=c9Q hb2 hgsl s1;have hxw:=Zac X0.out;have hgs2:gs<w2.heap.size:=(by omega);have HBX:=hI (HBW.out.trans (hb2.mono (by have:=HBW.out.size;omega)));have HBY:=hI (HBR.out.trans (hb2.mono hsz));have HPX:=hI (show StS w2 S A' P from HPS.out.keep (fun b hb=>hb2.block b (by have:=hS b hb;have:=HBW.out.size;omega)))
    try rw [hw2]
    clear hw2 hb2 d0 X0
    go_wp2_with fail
    refine(ZfG pcF A0 c0' s 1 A' c' P S w2 (HS.out.keep (Same.of_below HBX.out hS)) HPX.out (fun b hb=>by have:=hS b hb;have:=HBX.out.size;omega) (Zcy s) (by have:=HCN.out;omega)).mono ?_;rw [HSC.out,HCK.out];rintro e w3 ⟨rfl,hb3⟩;have HBZ:=hI (HBY.out.trans (hb3.mono (by omega)));clear hb3 s0 s1 x0
    go_wp2_with fail
    go_roundw
    case rel=>exact⟨k+1,by omega,by go_num,HBZ.out⟩
    case measure=>(simp [intOf];omega)
  · have hdk:decide (k<n)=false:=(by simp;omega);obtain rfl:k=n:=(by omega);obtain⟨wm,rfl⟩:∃ wm:World,wm=wr:=⟨_,rfl⟩;have TB2:=hI ((HBR.out.block (gs+1) hw1b).trans TB1.out);have hgs1:=Zac TB2.out;clear s0 s1 SB1 TB1 HBR HPK HB1
    go_wp2_with fail
    go_loopw [10,43] (fun c i wr=>∃ k':Nat,k'≤k∧i=.int .i64 k'∧c=.int .i64 (cntJ s (k:Int) st k':Nat)∧Below wm.heap.size wm wr) (fun _ i _=>k - (intOf i).toNat)
    case atStart=>exact⟨0,Nat.zero_le _,rfl,by rw [cntJ_zero];rfl,Below.refl _ _⟩
    case round =>
     obtain⟨i,hik,rfl,rfl,hbr⟩:=hrel;have HBR:=hI hbr;have hsz2:=hbr.size;clear hbr;have HBV:=hI (HBW.out.trans (HBR.out.mono (by have:=HBW.out.size;omega)));have hcl:=cntJ_le s (k:Int) st i
     by_cases hin:i<k
     · have hdi:decide (i<k)=true:=(by simp [hin]);have hi0:(0:Int)≤(i:Int):=(by omega);have hii:(i:Int)<(k:Int):=(by omega);obtain⟨bp,op,rfl,hbp,A',c',d0,d1,d2⟩:=Zhm (show Sl wr S AP ((Zcp s k st).map Zda) from Sl.keep HPP.out (Same.of_below HBV.out hS)) (k:=i) (by rw [ZcC];exact hin);rw [Zch hin] at d0 d1 d2;have HPS:=hI d2;have HOP:=hI (ZdH (qh (k:Int) i) HOK.out);have HCNX:=hI (cntJ_next s (k:Int) st i);have hcl2:=cntJ_le s (k:Int) st (i+1);rw [HCNX.out] at hcl2;have HLP:=hI (Zco (s:=s) (qh (k:Int) i) st)
       have HHM:=hI (show ∀ u,u<st.length→∀ r ∈ (prtS s (qh (k:Int) i) st).getD u [],(ZbL (k:Int) (u:Int) (keyF s u r)).toNat=i from fun u hu r hr=>by
        rw [Zfj _ hu] at hr;have h9:=(List.mem_filter.1 hr).2;simpa [qh] using h9)
       have hbpl:bp<wr.heap.size:=(by have:=hS bp hbp;have:=HBV.out.size;omega);clear d1 d2;obtain⟨P,hPe⟩:∃ P,prtS s (qh (k:Int) i) st=P:=⟨_,rfl⟩;rw [hPe] at d0 HPS HOP HCNX hcl2 HLP HHM;clear hPe;obtain⟨pl,hpl⟩:∃ pl,P.length=pl:=⟨_,rfl⟩;have HPL:=hI hpl;rw [hpl] at d0;have hpl8:pl≤8:=(by have:=HLP.out;omega);clear hpl;go_upto_region 15 with fail
       obtain⟨w2,hw2⟩:∃ w2,wr.alloc (.cells #[.slice A' pl c'] 33)=w2:=⟨_,rfl⟩;have X0:=hI (show w2.heap[wr.heap.size]?=some (.cells #[.slice A' pl c'] 33 (0,0)) by rw [←hw2];exact heap_alloc_new wr _);have hb2:Below wr.heap.size wr w2:=(by rw [←hw2];exact(Below.refl _ _).alloc nR _);have x0:w2.cell? ⟨wr.heap.size,0,none⟩=some (.slice A' pl c'):=Zaa X0.out 0 _ rfl;have hxw:=Zac X0.out;have HBX:=hI (HBR.out.trans (hb2.mono hsz2));have HPX:=hI (show StS w2 S A' P from HPS.out.keep (fun b hb=>hb2.block b (by have:=hS b hb;have:=HBV.out.size;omega)));have HSM:=hI (show Same S w w2 from Same.of_below (HBV.out.trans (hb2.mono (by have:=HBV.out.size;omega))) hS);have hz2:=hb2.size
       try rw [hw2]
       clear hw2 hb2 d0 X0
       go_wp2_with fail
       go_loopw [10,51] (fun c j wr=>∃ u:Nat,u≤pl∧j=.int .i64 u∧c=.int .i64 ((cntJ s (k:Int) st i+Zao (P.take u):Nat):Int)∧Below wm.heap.size wm wr) (fun _ j _=>pl - (intOf j).toNat)
       case atStart=>exact⟨0,Nat.zero_le _,rfl,rfl,HBX.out⟩
       case round =>
        clear x0;obtain⟨u,hu,rfl,rfl,hbr3⟩:=hrel;have HBR3:=hI hbr3;have hsz3:=hbr3.size;clear hbr3;have HBV3:=hI (HBW.out.trans (HBR3.out.mono (by have:=HBW.out.size;omega)))
        by_cases hul:u<pl
        · have hdu:decide (u<pl)=true:=(by simp [hul]);have hu0:(0:Int)≤(u:Int):=(by omega);have hui:(u:Int)<(pl:Int):=(by omega);have hust:u<st.length:=(by rw [←HLP.out,HPL.out];exact hul);have htl:u<s.tabs.length:=(by rw [←HSTT.out];exact hust);obtain⟨bt,ot,rfl,hbt,A2,c2,e0,e1,e2⟩:=(show StS wr S A' P from HPX.out.keep (fun b hb=>((Same.of_below HBV3.out hS) b hb).trans (HSM.out b hb).symm)).at_ (k:=u) (by rw [HPL.out];exact hul);have HRI:=hI e2;have HSM3:=hI (Same.of_below HBV3.out hS);have hbtl:bt<wr.heap.size:=(by have:=hS bt hbt;have:=HBV3.out.size;omega);have HRO:=hI ((HOP.out.2 u (by rw [HPL.out];exact hul)).1);have HH:=hI (HHM.out u hust);have htk:=ZdP P u (by rw [HPL.out];exact hul);have htk2:=ZdF P (u+1);have hkt:=Zcv HSC.out htl;clear e1 e2;obtain⟨LI,hLI⟩:∃ LI,P.getD u []=LI:=⟨_,rfl⟩;rw [hLI] at e0 HRI HRO HH htk;clear hLI;obtain⟨cu,hcu⟩:∃ cu,cntJ s (k:Int) st i+Zao (P.take u)=cu:=⟨_,rfl⟩;have HCU:=hI (show cntJ s (k:Int) st i+Zao (P.take (u+1))=cu+LI.length by omega);have hlc:cu+LI.length≤512:=(by have:=HCNT.out;omega);rw [hcu];clear hcu htk htk2
          go_wp2_with fail
          go_loopw [10,58] (fun c q wr=>∃ j:Nat,j≤LI.length∧q=.int .i64 j∧c=.int .i64 ((cu+j:Nat):Int)∧Below wm.heap.size wm wr) (fun _ q _=>LI.length - (intOf q).toNat)
          case atStart=>exact⟨0,Nat.zero_le _,rfl,rfl,HBR3.out⟩
          case round =>
           clear e0;obtain⟨j,hj,rfl,rfl,hbr4⟩:=hrel;have HBR4:=hI hbr4;have hsz4:=hbr4.size;clear hbr4;have HBV4:=hI (HBW.out.trans (HBR4.out.mono (by have:=HBW.out.size;omega)))
           by_cases hjl:j<LI.length
           · have hdj:decide (j<LI.length)=true:=(by simp [hjl]);have hj0':(0:Int)≤(j:Int):=(by omega);have hji:(j:Int)<(LI.length:Int):=(by omega);have HSM4:=hI (Same.of_below HBV4.out hS);obtain⟨b5,o5,rfl,hb5,A5,c5,f1,f2,f3⟩:=RowsS.at_ (show RowsS wr S A2 LI from Sl.keep HRI.out (fun b hb=>(HSM4.out b hb).trans (HSM3.out b hb).symm)) hjl;have hmem:LI.getD j [] ∈ LI:=(by rw [show LI.getD j []=LI[j] by simp [List.getD,hjl]];exact List.getElem_mem hjl);have HFT:=hI (HRO.out (LI.getD j []) hmem);have HHJ:=hI (HH.out _ hmem);obtain⟨row,hrow⟩:∃ row,LI.getD j []=row:=⟨_,rfl⟩;rw [hrow] at f1 f2 f3 HFT HHJ;clear hrow hmem;have hrll:=Zci HFT.out;rw [Int.toNat_natCast] at hrll;have hrl0:0<row.length:=(by omega);have hrl8:row.length≤8:=(by omega);have HVR:=hI (Zdx HFT.out);have hlb5:b5<wr.heap.size:=(by have:=hS b5 hb5;have:=HBV4.out.size;omega);have HRW:=hI f3;have hca:row.length≤c5:=f2;have SB5:=hI ((HBR4.out.block gs hgsl).trans SB2.out);have s0:wr.cell? ⟨gs,0,none⟩=some (.int .i64 s.version):=Zaa SB5.out 0 _ rfl;have s1:wr.cell? ⟨gs,1,none⟩=some (.slice A0 s.tabs.length c0'):=Zaa SB5.out 1 _ rfl;have hgs5:=Zac SB5.out;clear hrll f3
             go_wp2_with fail
             refine(ZeU A0 c0' s u A5 c5 row S wr (HS.out.keep HSM4.out) HRW.out hca (fun b hb=>by have:=hS b hb;have:=HBV4.out.size;omega) htl hkt.2.1 hrl0).mono ?_;rintro e w4 ⟨A4,c4,rfl,h4,hb4⟩;have HK4:=hI (show RowS w4 (fun b=>b<w4.heap.size) A4 (keyF s u row) from (ZaI (ZbJ (Zcc HVR.out) (by have:=Zeu s (u:Int) row;omega)) h4).more (fun b hb=>hb.2));have HB4:=hI (HBR4.out.trans (hb4.mono hsz4));have hz4:=hb4.size;clear h4 hb4 s0 s1 f1
             go_wp2_with fail
             refine(Zdi (k:Int) (u:Int) A4 c4 (keyF s u row) (fun b=>b<w4.heap.size) w4 (by omega) (by omega) HK4.out (fun b hb=>hb) (Zcc HVR.out) (by have:=Zeu s (u:Int) row;omega)).mono ?_;rintro e w5 ⟨rfl,hb5'⟩;have HB5:=hI (HB4.out.trans (hb5'.mono (by omega)));clear hb5' HB4 HK4;have hhr:=ZbK (n:=(k:Int)) (t:=(u:Int)) (key:=keyF s u row) (by omega);have hhe:ZbL (k:Int) (u:Int) (keyF s u row)=(i:Int):=(by have:=HHJ.out;omega);rw [hhe];have hne:((i:Int) != (i:Int))=false:=(by simp);clear hhr hhe
             go_wp2_with fail
             go_roundw
             case rel=>exact⟨j+1,by omega,by go_num,by go_num,HB5.out⟩
             case measure=>(simp [intOf];omega)
           · have hdj:decide (j<LI.length)=false:=(by simp;omega);have hjj:cu+j=cntJ s (k:Int) st i+Zao (P.take (u+1)):=(by rw [HCU.out];omega);have HJJ:=hI hjj;clear hjj
             go_wp2_with fail
             go_roundw
             case rel=>first | exact⟨u+1,by omega,by go_num,by rw [HJJ.out],HBR4.out⟩ | ((repeat apply Exists.intro);exact⟨⟨u+1,by omega,by go_num,by rw [HJJ.out],HBR4.out⟩,rfl⟩)
             case measure=>(simp [intOf];omega)
        · have hdu:decide (u<pl)=false:=(by simp;omega);have hjj:cntJ s (k:Int) st i+Zao (P.take u)=cntJ s (k:Int) st (i+1):=(by rw [HCNX.out,List.take_of_length_le (by rw [HPL.out];omega)]);have HJJ:=hI hjj;clear hjj
          go_wp2_with fail
          go_roundw
          case rel=>first | exact⟨i+1,by omega,by go_num,by rw [HJJ.out],HBR3.out⟩ | ((repeat apply Exists.intro);exact⟨⟨i+1,by omega,by go_num,by rw [HJJ.out],HBR3.out⟩,rfl⟩)
          case measure=>(simp [intOf];omega)
     · have hdi:decide (i<k)=false:=(by simp;omega);obtain rfl:i=k:=(by omega)
       have HRT:=hI (show ∀ t,t<st.length→(∀ r ∈ st.getD t [],0<r.length∧r.length≤12)∧(st.getD t []).Pairwise (fun a b=>cmpR a b<0) from fun t ht=>by
        have htl:t<s.tabs.length:=(by rw [←HSTT.out];exact ht);have hkt:=Zcv HSC.out htl;refine⟨fun r hr=>?_,asc_rows (HOK.out.2 t ht) htl⟩;have h9:=Zci ((HOK.out.2 t ht).1 r hr);rw [Int.toNat_natCast] at h9;omega)
       obtain⟨cz,hcz⟩:∃ cz,cntJ s (i:Int) st i=cz:=⟨_,rfl⟩;have hcz5:cz≤512:=(by have:=HCNT.out;omega);rw [hcz];have hd9:decide ((512:Int)<(cz:Int))=false:=(by simp;omega);clear hcz hcl;have SB3:=hI ((HBR.out.block gs hgsl).trans SB2.out);have TB3:=hI ((HBR.out.block (gs+1) hgs1).trans TB2.out);have s1:wr.cell? ⟨gs,1,none⟩=some (.slice A0 s.tabs.length c0'):=Zaa SB3.out 1 _ rfl;have hgs3:=Zac TB3.out;have hmkr:=ZbV s.tabs.length (by have:=HSTT.out;omega);go_upto_region 30 with fail
       obtain⟨gN,hgN⟩:∃ gN,wr.heap.size=gN:=⟨_,rfl⟩
       try rw [hgN]
       obtain⟨w2,hw2⟩:∃ w2,(wr.alloc (.cells (Zam s.tabs.length).toArray 73)).alloc (.cells #[.slice (some ⟨gN,0,none⟩) s.tabs.length s.tabs.length] 33)=w2:=⟨_,rfl⟩;have hb2:Below wr.heap.size wr w2:=(by rw [←hw2];exact((Below.refl _ _).alloc nR _).alloc (by simp) _);have hz2:gN+2≤w2.heap.size∧w2.heap.size≤gN+2:=(by rw [←hw2,←hgN];simp);have HL0:=hI (Lst.zero (w:=w2) (base:=w2.heap.size) (gN:=gN) (n:=s.tabs.length) (TT:=73) (D:=st.map Zaw) (by rw [←hw2,←hgN];exact(Below.heap_alloc _ _ _ (by simp)).trans (heap_alloc_new wr _)));have XB:=hI (show w2.heap[gN+1]?=some (.cells #[.slice (some ⟨gN,0,none⟩) s.tabs.length s.tabs.length] 33 (0,0)) by rw [←hw2,←hgN];simpa using heap_alloc_new (wr.alloc (.cells (Zam s.tabs.length).toArray 73)) (.cells #[.slice (some ⟨wr.heap.size,0,none⟩) s.tabs.length s.tabs.length] 33));have x0:w2.cell? ⟨gN+1,0,none⟩=some (.slice (some ⟨gN,0,none⟩) s.tabs.length s.tabs.length):=Zaa XB.out 0 _ rfl;have HBX:=hI (HBV.out.trans (hb2.mono (by have:=HBV.out.size;omega)));have TB4:=hI ((hb2.block (gs+1) (by omega)).trans TB3.out);have hgg:gs+1<gN:=(by omega);have hst8':s.tabs.length≤8:=by have:=HSTT.out;omega
       try rw [hw2]
       clear hmkr hw2 hgN hb2 s1 hd9
       go_wp2_with fail
       clear x0
       go_loopw [89] (fun q wr=>∃ t:Nat,t≤s.tabs.length∧q=.int .i64 t∧Fr (fun b=>b=gN) w2 wr∧Lst wr w2.heap.size gN s.tabs.length t 73 (st.map Zaw)) (fun q _=>s.tabs.length - (intOf q).toNat)
       case atStart=>exact⟨0,Nat.zero_le _,rfl,Fr.refl _ _,HL0.out⟩
       case round =>
        clear HL0;obtain⟨t,ht,rfl,hfr,hls⟩:=hrel;have HFR:=hI hfr;have HLS:=hI hls;have hsz3:=hfr.size;clear hfr hls;have HBW3:=hI (show Below w.heap.size w wr from HBX.out.trans (HFR.out.below (n:=w.heap.size) (by omega) (fun b hb=>by omega)));have XB3:=hI ((HFR.out.block (gN+1) (by omega) (by omega)).trans XB.out);have x0:wr.cell? ⟨gN+1,0,none⟩=some (.slice (some ⟨gN,0,none⟩) s.tabs.length s.tabs.length):=Zaa XB3.out 0 _ rfl;have hxl:=Zac XB3.out
        by_cases htl:t<s.tabs.length
        · have hdt:decide (t<s.tabs.length)=true:=(by simp [htl]);have ht0:(0:Int)≤(t:Int):=(by omega);have hti:(t:Int)<(s.tabs.length:Int):=(by omega);have hts:t<st.length:=(by rw [HSTT.out];exact htl);have HDK:=hI (show (st.map Zaw)[t]?=some (Zaw (st.getD t [])) by simp [List.getD,hts]);have hTl:(st.getD t []).length≤512:=by have:=Zbc st t;have:=HCNT.out;omega
          go_wp2_with fail
          obtain⟨g2,g3⟩:=HLS.out.cell htl;have hgl:=HLS.out.lt;refine tS (fun w'=>w'.cell? ⟨gN+1,0,none⟩=some (.slice (some ⟨gN,0,none⟩) s.tabs.length s.tabs.length)∧w'.cell? ⟨gN,t,none⟩=some (.slice none 0 0)∧w'.frozen? ⟨gN,t,none⟩=false) 7 8 fun Q' HQ HP=>?_;obtain⟨wd,hwd⟩:∃ wd,wr.drew=wd:=⟨_,rfl⟩;have HBD:=hI (show Below wr.heap.size wr wd by rw [←hwd];exact(Below.refl _ wr).drew);have hwz:wd.heap.size≤wr.heap.size∧wr.heap.size≤wd.heap.size:=(by rw [←hwd];exact⟨Nat.le_refl _,Nat.le_refl _⟩);have HBD3:=hI (HBW3.out.trans (HBD.out.mono (by have:=HBW3.out.size;omega)));have x0:=c9Q HBD.out hxl x0;have g2:=c9Q HBD.out hgl g2;have g3:=(HBD.out.frozen (p:=⟨gN,t,none⟩) hgl).trans g3;rw [hwd];clear hwd
          have HJN:=hI (joined_any AP i cp t (Zcp s i st) (st.getD t []) (fun x=>(ZbL (i:Int) (t:Int) (keyF s (t:Int) x)).toNat) S wd (Sl.keep HPP.out (Same.of_below HBD3.out hS)) (ZcC s i st) hn4 (fun b hb=>by have:=hS b hb;have:=HBD3.out.size;omega)
           (fun a ha=>⟨by rw [Zch ha,Zco];exact hts,by rw [Zch ha,Zfj _ hts];rfl⟩) (HRT.out t hts).2
           (fun x _=>by have:=ZbK (n:=(i:Int)) (t:=(t:Int)) (key:=keyF s (t:Int) x) (by omega);show (ZbL (i:Int) (t:Int) (keyF s (t:Int) x)).toNat<i;omega)
           (by have:=Zbc st t;have:=HCNT.out;omega) (HRT.out t hts).1)
          obtain⟨TT,hTT⟩:∃ TT,st.getD t []=TT:=⟨_,rfl⟩;rw [hTT] at HJN HDK hTl;clear hTT;refine tX 0 92 1 93 2 94 3 95 (bA 8 15) HP.out ⟨x0,g2,g3⟩ ?_;refine tJ 4 96 (bA 8 31) HP.out ⟨x0,g2,g3⟩ ?_;refine tQ 5 (some 97) (bA 8 63) fun K HK=>?_;go_simp;refine HJN.out.mono ?_;rintro e w4 ⟨A4,c4,rfl,hc4,h4,hb4'⟩;have hb4:=(HBD.out.trans (hb4'.mono (by omega)));have H4:=hI h4;have HC4:=hI hc4;have HL4:=hI (HLS.out.below hb4);have hz4:=hb4'.size;have HF4:=hI (HFR.out.trans (Fr.of_below hb4) (Y:=fun _=>False) (fun b hb h=>h.elim));have x0:=c9J hb4' x0;have g2:=c9J hb4' g2;have g3:=(hb4'.frozen (p:=⟨gN,t,none⟩) (by show gN<wd.heap.size;omega)).trans g3;have hgl4:=HL4.out.lt;clear hb4 hb4' h4 hc4 HJN;go_simp;refine HK.out _ _ (fun _=>⟨x0,g2,g3⟩) ?_;clear HK K
          try simp only [Act.put,psA,psB,psC]
          refine tJ 6 98 (bA 8 127) HP.out ⟨x0,g2,g3⟩ ?_;refine tQ 7 none (bA 8 255) fun K HK=>?_;go_simp;refine HK.out _ _ (fun h=>absurd rfl h) ?_;clear HK K;refine tE HQ ?_;clear HQ HP Q'
          have HLN:=hI (HL4.out.put htl (by omega) HDK.out (show Dat.Vals w4 (fun b=>w2.heap.size≤b∧b<w4.heap.size) (Zaw TT) [.slice A4 TT.length c4] by
           unfold Zaw Dat.Vals;exact⟨A4,c4,by simp,by simpa using HC4.out,Sl.more H4.out (fun b hb=>⟨by have:=hb.1;omega,hb.2⟩)⟩))
          have HFN:=hI (HF4.out.setCell (.slice A4 TT.length c4) (g:=gN) (o:=t) (fun _=>rfl));clear x0 g2 g3
          go_wp2_with fail
          go_roundw
          case rel=>exact⟨t+1,by omega,by go_num,HFN.out,HLN.out⟩
          case measure=>(simp [intOf];omega)
        · have hdt:decide (t<s.tabs.length)=false:=(by simp;omega);obtain rfl:t=s.tabs.length:=(by omega);have HNS:=hI (HLS.out.done (by rw [List.length_map,HSTT.out]) (by rw [Zae (n:=24) (fun _=>rfl)];omega) (S':=New w wr) ⟨by omega,HLS.out.lt⟩ (fun b hb=>⟨by have:=HBW3.out.size;omega,hb.2⟩));have TB5:=hI ((HFR.out.block (gs+1) (by omega) (by omega)).trans TB4.out);have x3:wr.cell? ⟨gs+1,0,none⟩=some (.slice none 0 0):=Zaa TB5.out 0 _ rfl;have x4:wr.frozen? ⟨gs+1,0,none⟩=false:=(by simp [World.frozen?,TB5.out]);have hg5:=Zac TB5.out
          go_wp2_with fail
          obtain⟨w6,hw6⟩:∃ w6,wr.setCell ⟨gs+1,0,none⟩ (.slice (some ⟨gN,0,none⟩) s.tabs.length s.tabs.length)=w6:=⟨_,rfl⟩;have r0:w6.cell? ⟨gs+1,0,none⟩=some (.slice (some ⟨gN,0,none⟩) s.tabs.length s.tabs.length):=(by rw [←hw6];exact World.cell?_setCell_same _ _ _ x3)
          have hpost:JoinP st w (.returned (.tuple #[Zcf (some ⟨gN,0,none⟩) s.tabs.length s.tabs.length,.int .i64 0])) w6:=by
           rw [←hw6,←HSTT.out];refine⟨some ⟨gN,0,none⟩,st.length,rfl,Nat.le_refl _,?_,HBW3.out.setCell (by show w.heap.size≤gs+1;omega) _⟩;have h9:=HLS.out.done (by rw [List.length_map,HSTT.out]) (by rw [Zae (n:=24) (fun _=>rfl)];omega) (S':=fun b=>gs+1<b∧b<wr.heap.size) ⟨by omega,HLS.out.lt⟩ (fun b hb=>⟨by omega,hb.2⟩);exact Sl.more (Sl.keep h9 (fun b hb=>Below.heap_setCell wr ⟨gs+1,0,none⟩ _ _ (by have:=hb.1;show b≠gs+1;omega))) (fun b hb=>⟨by have:=hb.1;omega,by have:=hb.2;simpa using this⟩)
          have HPO:=hI hpost;clear hpost
          try rw [hw6]
          refine bodyPost_ret (v:=.tuple #[Zcf (some ⟨gN,0,none⟩) s.tabs.length s.tabs.length,.int .i64 0]) (by simp [results,Tryz.results36,go_sem,r0]) rfl HPO.out
theorem ZfP (f la:Chg):(ZaP f la).length≤1:=by
 unfold ZaP;split<;>simp
theorem ZdY {s:Sch}:∀ (l:List Chg) (o:Option (Chg × Chg)) (out:List Chg),Zaq s o l=some out→out.length≤l.length+(if o.isSome then 1 else 0)
 | [],none,out,h=>by unfold Zaq at h;injection h with h;subst h;simp
 | x :: r,none,out,h=>by
  unfold Zaq at h;have:=ZdY r _ out h;simp only [Option.isSome_some,if_true,Option.isSome_none,Bool.false_eq_true,if_false,List.length_cons] at this ⊢;omega
 | [],some (f,la),out,h=>by
  unfold Zaq at h;injection h with h;subst h;have:=ZfP f la;simpa using this
 | x :: r,some (f,la),out,h=>by
  unfold Zaq at h;split at h
  · split at h
    · have:=ZdY r _ out h;simp only [Option.isSome_some,if_true,List.length_cons] at this ⊢;omega
    · cases h
  · obtain⟨o2,h1,h2⟩:=Option.map_eq_some_iff.1 h;have:=ZdY r _ o2 h1;have h3:=ZfP f la;subst h2;simp only [Option.isSome_some,if_true,List.length_cons,List.length_append] at this ⊢;omega
theorem netF_len {e m:Int} {s:Sch} {l D:List Chg} (h:netF e s m l=(0,D)):D.length≤l.length:=by
 unfold netF at h;split at h
 · injection h with h1 h2;subst h2;simp
 · split at h
   · injection h with h1 h2;subst h2;simp
   · rename_i o ho
     split at h
     · injection h with h1 h2;subst h2;simp
     · injection h with h1 h2;subst h2;have h3:=ZdY _ _ _ ho;rw [Zed,List.length_take] at h3;simp only [Option.isSome_none,Bool.false_eq_true,if_false] at h3;omega
theorem prtC_eq {s:Sch} {n i:Nat} {D:List Chg} (hv:∀ x ∈ D,Zap s 1 x=true):prtC s n i D=D.filter fun c=>qh n i c.table.toNat (keyC s c):=by
 refine List.filter_congr (fun c hc=>?_);obtain⟨t,h1,h2⟩:=ZeT (hv c hc);unfold Zbh qh;rw [Zhd (hv c hc),h1,Int.toNat_natCast]
structure BackC (s:Sch) (st:St) (l D:List Chg):Prop where
 net:netF 0 s 1 l=(0,D)
 len:D.length≤l.length
 val:∀ x ∈ D,Zap s 1 x=true
 chg:∀ x ∈ D,ChgN s x∧ZbH s x=keyC s x
 asc:D.Pairwise (fun a b=>cmpC s a b<0)
 part:∀ n i:Nat,netF 0 s 1 (prtC s n i D)=(0,prtC s n i D)
theorem back_of {s:Sch} (hg:GenS s) (hsc:schF pcF s=0) {st:St} (hs:StOk s 1 st) {l:List Chg} (hf:Fit s 1 st l):BackC s st l (Zdq s st (after s st l)):=by
 have hw:=hg.wide;have hb:=(ZhH hs hf).1;have hn:=Zhy hw (m:=1) rfl hs hf;have hd:=ZhI hw hs hb;have hv:=ZgO hd.1;exact⟨hn,netF_len hn,hv,fun x hx=>⟨ChgN.of hsc (hv x hx),Zhd (hv x hx)⟩,ZcK hs hb (Zbw hw hs) (Zbw hw hb),fun n i=>by rw [prtC_eq hv];exact prtS_net hw rfl (qh n i) hs hb⟩
theorem BackC.split {s:Sch} {st:St} {l D:List Chg} (h:BackC s st l D) (hsc:schF pcF s=0) {n:Nat} (hn1:1≤n) (hn4:n≤4):ZcX s n l=(0,ZaH n (Zbh s n) D):=by
 unfold ZcX;have e:Zbi s (n:Int)=0:=(by unfold Zbi;rw [if_neg (by omega)];exact hsc);rw [e,hsc,h.net,if_neg (by simp),if_neg (by simp),Int.toNat_natCast]
theorem of_row {s:Sch} (hg:GenS s) (hsc:schF pcF s=0) {n t:Nat} (hn1:1≤n) (hn4:n≤4) (ht:t<s.tabs.length) {r:Row} (h:Zav s t r 1=true):ofF s n t (keyF s t r)=(ZbL n t (keyF s t r),0):=by
 have e:Zbi s (n:Int)=0:=(by unfold Zbi;rw [if_neg (by omega)];exact hsc);have hh:hasN s.tabs.length (t:Int)=true:=(by simp [hasN];omega);unfold ofF;rw [e,hh,if_neg (by simp),if_neg (by simp),if_pos ?_];have h0:=h;unfold Zav at h0;simp only [Bool.and_eq_true,decide_eq_true_eq,Int.toNat_natCast] at h0;obtain⟨⟨⟨h1,h2⟩,h3⟩,h4⟩:=h0;have hat:=Zcj h4 h3;have hk:=hg.kinds ht;rw [ZdK ht];unfold ZeR;rw [hk.1,List.length_map,Int.toNat_natCast];have hkn:keyN (s.tabs.getD t t0).key r=(max 0 (min (s.tabs.getD t t0).key ((s.tabs.getD t t0).cols.length:Int))).toNat:=(by unfold keyN;rw [h3]);rw [hkn];obtain⟨k,hkk⟩:∃ k,(max 0 (min (s.tabs.getD t t0).key ((s.tabs.getD t t0).cols.length:Int))).toNat=k:=⟨_,rfl⟩;rw [hkk];refine⟨by rw [List.length_take,List.length_take,List.length_map,h3],fun i hi=>?_⟩;rw [List.length_take] at hi;have hir:i<r.length:=(by omega);have hik:i<k:=(by omega);have hic:i<(s.tabs.getD t t0).cols.length:=(by omega);have h5:=hat i hic;have e1:(r.take k).getD i v0=r.getD i v0:=(by simp [List.getD,hik])
 have e2:∀ cs:List Col,i<cs.length→((cs.map (·.kind)).take k).getD i 0=(cs.getD i c0).kind:=fun cs h=>by
  simp only [List.getD];rw [List.getElem?_take_of_lt hik,List.getElem?_map,List.getElem?_eq_getElem h];rfl
 rw [e1,e2 _ hic];unfold Zau at h5;simp only [Bool.and_eq_true,Bool.or_eq_true,decide_eq_true_eq] at h5;refine⟨h5.1,?_⟩;rcases h5.2 with (h6 | h6) | h6
 · exact h6
 · exact absurd rfl h6.1.2
 · exact absurd h6.1.2 (by decide)
def rowC (c:Chg):Row:=if c.old.length=0 then c.new else c.old
theorem of_chg {s:Sch} (hg:GenS s) (hsc:schF pcF s=0) {n i:Nat} (hn1:1≤n) (hn4:n≤4) {c:Chg} (hv:Zap s 1 c=true) (hi:Zbh s n c=i):∃ t:Nat,c.table=t∧t<s.tabs.length∧0<(rowC c).length∧Zav s t (rowC c) 1=true∧ofF s n t (keyF s t (rowC c))=((i:Int),0):=by
 obtain⟨t,h1,h2⟩:=ZeT hv;have hs:=Zel hv
 have hfit:0<(rowC c).length∧Zav s t (rowC c) 1=true:=by
  have h4:=hv;unfold Zap at h4;rw [h1] at h4;simp only [Bool.and_eq_true,Bool.or_eq_true,decide_eq_true_eq] at h4;unfold rowC;split
  · rename_i h0
    refine⟨by omega,(h4.1.2).resolve_left (by omega)⟩
  · rename_i h0
    exact⟨by omega,(h4.1.1.2).resolve_left h0⟩
 refine⟨t,h1,h2,hfit.1,hfit.2,?_⟩;rw [of_row hg hsc hn1 hn4 h2 hfit.2]
 have hk:keyF s t (rowC c)=keyC s c:=by
  unfold rowC keyC;rw [h1];split
  · rw [if_neg (by omega)]
  · rw [if_pos (by omega)]
 have h9:=ZbK (n:=(n:Int)) (t:=(t:Int)) (key:=keyC s c) (by omega);have h8:(ZbL (n:Int) (t:Int) (keyC s c)).toNat=i:=(by rw [←hi];unfold Zbh;rw [Zhd hv,h1]);rw [hk]
 congr 1
 omega
theorem of_part {s:Sch} (hg:GenS s) (hsc:schF pcF s=0) {n i t:Nat} (hn1:1≤n) (hn4:n≤4) {st:St} (hs:StOk s 1 st) (ht:t<st.length) {r:Row} (hr:r ∈ (prtS s (qh n i) st).getD t []):Zav s t r 1=true∧ofF s n t (keyF s t r)=((i:Int),0):=by
 rw [Zfj _ ht] at hr;obtain⟨h1,h2⟩:=List.mem_filter.1 hr;have hf:=(hs.2 t ht).1 r h1;refine⟨hf,?_⟩;rw [of_row hg hsc hn1 hn4 (by rw [←hs.1];exact ht) hf];have h9:=ZbK (n:=(n:Int)) (t:=(t:Int)) (key:=keyF s t r) (by omega);have h8:(ZbL (n:Int) (t:Int) (keyF s t r)).toNat=i:=by simpa [qh] using h2
 congr 1
 omega
end Go.Proofs.YtkpjjfhfbpfjpaaGreat
