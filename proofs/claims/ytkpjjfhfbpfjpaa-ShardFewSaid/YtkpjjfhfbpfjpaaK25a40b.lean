import Derived.Test.YtkpjjfhfbpfjpaaK122a8f
import Derived.Test.YtkpjjfhfbpfjpaaK4e30bf
import Derived.Deep.Cut
import Derived.Test.YtkpjjfhfbpfjpaaK80d3b3
set_option linter.unusedVariables false
set_option linter.unusedSimpArgs false
set_option maxRecDepth 100000
set_option maxHeartbeats 8000000
namespace Go.Proofs.Ytkpjjfhfbpfjpaa
open Go.RowKit
theorem infoLC:(Try.prog.info? 48).map (fun i=>(i.zero,i.size,i.bytes))=some (some (.slice none 0 0),1,24):=by kernel_rfl
theorem run_make_chgs (n:Nat) (hn:n≤1000) (w:World) :
  (Instr.makeSlice 82 (.int .i64 (n:Int)) (.int .i64 (n:Int))).run Try.prog w=.ok (.slice (some ⟨w.heap.size,0,none⟩) n n) (w.alloc (.cells (Zau n).toArray 48)):=by
 obtain⟨i0,hi,hz0,hz1,hz2⟩:=info_parts infoLC;have hr:=run_make (P:=Try.prog) w 82 48 i0 _ Try.underlying82 hi hz0 .i64 .i64 n n (by omega) (by omega) (by rw [hz2];omega) (by omega);rw [hr,hz1];simp only [Int.toNat_natCast]
 congr 3
 apply Array.ext
 · simp [size_madeCells,Zau]
 · intro i h1 h2;simp [madeCells,Zau,Value.cells,Nat.mod_one]
theorem ZbZ (A0:Option Addr) (c0':Nat) (s:Sch) (n:Int) (AC:Option Addr) (cc:Nat) (l:List Chg) (S:Nat→Prop) (w:World) (hs:TabS w S A0 s.tabs) (hch:ChgS w S AC l) (hS:∀ b,S b→b<w.heap.size) (hll:l.length≤19)
  (hgd:schF pcF s=0→(netF 0 s 1 l).1=0→∀ c ∈ (netF 0 s 1 l).2,ChgN s c) (hnl:(netF (schF pcF s) s 1 l).2.length≤1000) :
  Calls Try.prog 39 #[sAgg s.version A0 s.tabs.length c0',.int .i64 n,.slice AC l.length cc] w (SplP (Zbr s n l) w):=by
 have hsl:=hs.len;have HS:=hI hs;have HCH:=hI hch;clear hs hch;obtain⟨i0,hi,hj0',hj1',hj2''⟩:=info_parts ZfT;obtain⟨er,her⟩:∃ er,Zaw s n=er:=⟨_,rfl⟩;have HER:=hI her;have HSP:=hI (show Zbr s n l=if er≠0 then (er,[]) else if (netF (schF pcF s) s 1 l).1≠0 then ((netF (schF pcF s) s 1 l).1,[]) else (0,ZbA n.toNat (Zba s n) (netF (schF pcF s) s 1 l).2) by unfold Zbr;rw [her]);clear her;obtain⟨W0,hW0⟩:∃ W0,w.alloc (.cells #[.int .i64 s.version,.slice A0 s.tabs.length c0'] 25)=W0:=⟨_,rfl⟩;have HB0:=hI (show Below w.heap.size w W0 by rw [←hW0];exact(Below.refl w.heap.size w).alloc nR _);have hz0:W0.heap.size≤w.heap.size+1∧w.heap.size+1≤W0.heap.size:=(by rw [←hW0];simp);have SB:=hI (show W0.heap[w.heap.size]?=some (.cells #[.int .i64 s.version,.slice A0 s.tabs.length c0'] 25 (0,0)) by rw [←hW0];exact heap_alloc_new w _);have x0:W0.cell? ⟨w.heap.size,0,none⟩=some (.int .i64 s.version):=Zaa SB.out 0 _ rfl;have x1:W0.cell? ⟨w.heap.size,1,none⟩=some (.slice A0 s.tabs.length c0'):=Zaa SB.out 1 _ rfl;have hws:w.heap.size<W0.heap.size:=(by omega);go_enter Try.func39,Try.ntmps39
 go_wp2_with fail
 try rw [hW0]
 clear hW0;refine(ZaZ A0 c0' s n S W0 (HS.out.keep (Same.of_below HB0.out hS)) (fun b hb=>by have:=hS b hb;omega)).mono ?_;rintro e w1 ⟨rfl,hb1⟩;rw [HER.out];have y0:=cQ hb1 hws x0;have y1:=cQ hb1 hws x1;have HB1:=hI (HB0.out.trans (hb1.mono (by omega)));have hw1:w.heap.size<w1.heap.size:=(by have:=hb1.size;omega);clear hb1 x0 x1 HB0 SB
 by_cases he:er=0
 · subst he;obtain⟨hn1,hn4,hsc⟩:=ZeW HER.out;have HSC:=hI hsc;rw [hsc] at hnl;have HGD:=hI (hgd hsc);have HSP2:=hI (show Zbr s n l=if (netF 0 s 1 l).1≠0 then ((netF 0 s 1 l).1,[]) else (0,ZbA n.toNat (Zba s n) (netF 0 s 1 l).2) by rw [HSP.out,if_neg (by simp),hsc]);clear HSP hsc hgd
   go_wp2_with fail
   refine(net_any pcF A0 c0' s 1 AC cc l S w1 (HS.out.keep (Same.of_below HB1.out hS)) (HCH.out.keep (Same.of_below HB1.out hS)) (fun b hb=>by have:=hS b hb;omega) (Zeu s) (by have:=sch_tabs8 HSC.out;omega) hll).mono ?_;rw [HSC.out];generalize netF 0 s 1 l=r at *;obtain⟨re,N⟩:=r;simp only at hnl HSP2 HGD;rintro e w2 ⟨AN,cN,rfl,hcN,hN,hb2⟩;simp only at hcN hN;have HN:=hI hN;have HCN:=hI hcN;have z0:=cQ hb2 hw1 y0;have z1:=cQ hb2 hw1 y1;have HB2:=hI (HB1.out.trans (hb2.mono (by omega)));have hw2:w1.heap.size≤w2.heap.size:=hb2.size;clear hN hcN hb2 y0 y1
   by_cases hr:re=0
   · subst hr;have HGE:=hI (show ∀ c ∈ N,ChgN s c from fun c hc=>HGD.out (by simp) c hc);obtain⟨q,rfl⟩:=Int.eq_ofNat_of_zero_le (show 0≤n by omega);have HSP3:=hI (show Zbr s q l=(0,ZbA q (Zba s q) N) by rw [HSP2.out,if_neg (by simp),Int.toNat_natCast]);have hmk:=run_make_chgs q (by omega);clear HSP2;go_upto_region 8 with fail
     clear hmk;obtain⟨w3,hW3⟩:∃ w3,w2.alloc (.cells (Zau q).toArray 48)=w3:=⟨_,rfl⟩;obtain⟨gP,hgP⟩:∃ gP,w2.heap.size=gP:=⟨_,rfl⟩;have hb3:Below w2.heap.size w2 w3:=(by rw [←hW3];exact(Below.refl _ _).alloc nR _);have PB:=hI (show w3.heap[gP]?=some (.cells (Zau q).toArray 48 (0,0)) by rw [←hW3,←hgP];exact heap_alloc_new w2 _);have hz3:gP+1≤w3.heap.size∧w3.heap.size≤gP+1:=(by rw [←hW3,←hgP];simp);rw [hW3]
     try rw [hgP]
     have x0:=cJ hb3 z0;have x1:=cJ hb3 z1;have HB3:=hI (HB2.out.trans (hb3.mono (by omega)));have HN3:=hI (HN.out.keep (Same.of_below hb3 (fun b hb=>hb.2)));have HG0:=hI (Grid.start (w:=w3) (B0:=w3.heap.size) (n:=1) (T:=q) (G:=fun _=>gP) (TT:=48) (e:=53) (size:=3) (S0:=New w1 w2) (fun i _=>PB.out) (fun i i' h1 h2 _=>by omega) (fun i _=>by omega) (fun b hb=>⟨by have:=hb.2;omega,fun i _=>by have:=hb.2;omega⟩) nR);have HNW:=hI (show ∀ b,New w1 w2 b→b<gP∧w.heap.size<b from fun b hb=>⟨by have:=hb.2;omega,by have:=hb.1;omega⟩);have hgw:w.heap.size<gP:=(by omega);clear hW3 hb3 z0 z1 HN PB hgP;have hnN:N.length≤cN:=HCN.out
     go_wp2_with fail
     go_loopw [34] (fun i wr=>∃ (k:Nat) (V:Nat→Nat→Value),k≤N.length∧i=.int .i64 k∧Fr (fun b=>b=gP) w3 wr∧Grid wr w3.heap.size 53 48 3 (New w1 w2) 1 q (fun _=>gP) V V (fun _ j=>((N.take k).filter fun c=>Zba s q c == j).map ZaC)) (fun i _=>N.length - (intOf i).toNat)
     case atStart=>exact⟨0,_,Nat.zero_le _,rfl,Fr.refl _ _,HG0.out.congr (fun i j _ _=>by simp)⟩
     case round =>
      clear HG0;obtain⟨k,V,hkk,rfl,hfr,hgr⟩:=hrel;have HFR:=hI hfr;have HGR:=hI hgr;have hsz:=hfr.size;clear hfr hgr
      by_cases hlt:k<N.length
      · have hdk:decide (k<N.length)=true:=(by simp [hlt]);have hk0:(0:Int)≤(k:Int):=(by omega);have hki:(k:Int)<N.length:=(by omega);obtain⟨b1,o1,rfl,hb1,f0,A1,c1,A2,c2,f1,f1c,f1r,f2,f2c,f2r⟩:=(HN3.out.keep (HFR.out.same (fun b hb=>⟨by have:=HNW.out b hb;omega,by have:=HNW.out b hb;omega⟩))).at_ hlt;have hlb:b1<wr.heap.size:=(by have:=HNW.out b1 hb1;omega);have HCG:=hI (HGE.out (N.getD k chg0) (by rw [show N.getD k chg0=N[k] by simp [List.getD,hlt]];exact List.getElem_mem hlt));have HTK:=hI (show N.take (k+1)=N.take k++[N.getD k chg0] by rw [List.take_succ_eq_append_getElem hlt];simp [List.getD,hlt]);have HTL:=hI (show ∀ j,((N.take k).filter fun c=>Zba s q c == j).length≤1000 from fun j=>by have h1:=List.length_filter_le (fun c=>Zba s q c == j) (N.take k);rw [List.length_take] at h1;omega);have HF1:=hI f1r;have HF2:=hI f2r;have hl1:=f1r.len;have hl2:=f2r.len;generalize N.getD k chg0=x at f0 f1 f1c f2 f2c HF1 HF2 HCG HTK hl1 hl2;obtain⟨xt,xo,xn⟩:=x;obtain⟨t9,ht9,htl⟩:=HCG.out.tab;simp only at f0 f1 f1c f2 f2c HF1 HF2 hl1 hl2 ht9;subst ht9;have hkl:=Zdv HSC.out htl;have h01:0<xo.length∨0<xn.length:=HCG.out.some_;have HKV:=hI HCG.out.key;have HHL:=hI (homeC_lt (s:=s) (n:=(q:Int)) (c:=⟨t9,xo,xn⟩) hn1);have HF1C:=hI f1c;have HF2C:=hI f2c;clear f1r f2r f1c f2c;go_upto_region 11 with fail
        obtain⟨W1,hW1⟩:∃ W1,wr.alloc (.cells #[.int .i64 t9,.slice A1 xo.length c1,.slice A2 xn.length c2] 53)=W1:=⟨_,rfl⟩;have X0:=hI (show W1.heap[wr.heap.size]?=some (.cells #[.int .i64 t9,.slice A1 xo.length c1,.slice A2 xn.length c2] 53 (0,0)) by rw [←hW1];exact heap_alloc_new wr _);have hbW:Below wr.heap.size wr W1:=(by rw [←hW1];exact(Below.refl _ _).alloc nR _);have hz1:W1.heap.size≤wr.heap.size+1∧wr.heap.size+1≤W1.heap.size:=(by rw [←hW1];simp);have HBX:=hI hbW;have HFW:=hI (show Below w.heap.size w W1 from HB3.out.trans ((HFR.out.below (n:=w.heap.size) (by omega) (fun b hb=>by omega)).trans (hbW.mono (by omega))));have hs0:=(hbW.cell (p:=⟨w.heap.size,0,none⟩) (by show w.heap.size<wr.heap.size;omega)).trans ((HFR.out.cell (b:=w.heap.size) (o:=0) (by omega) (by omega)).trans x0);have hs1:=(hbW.cell (p:=⟨w.heap.size,1,none⟩) (by show w.heap.size<wr.heap.size;omega)).trans ((HFR.out.cell (b:=w.heap.size) (o:=1) (by omega) (by omega)).trans x1);have a0:W1.cell? ⟨wr.heap.size,0,none⟩=some (.int .i64 t9):=Zaa X0.out 0 _ rfl;have a1:W1.cell? ⟨wr.heap.size,1,none⟩=some (.slice A1 xo.length c1):=Zaa X0.out 1 _ rfl;have a2:W1.cell? ⟨wr.heap.size,2,none⟩=some (.slice A2 xn.length c2):=Zaa X0.out 2 _ rfl;have HR1:=hI (HF1.out.keep (Same.of_below hbW (fun b hb=>by have:=HNW.out b hb;omega)));have HR2:=hI (HF2.out.keep (Same.of_below hbW (fun b hb=>by have:=HNW.out b hb;omega)));have hzw:wr.heap.size<W1.heap.size:=(by omega);have hzs:w.heap.size<W1.heap.size:=(by omega);rw [hW1];clear hW1 hbW f0 f1 f2 HF1 HF2 hdk X0;have hco:xo.length≤c1:=HF1C.out;have hcn:xn.length≤c2:=HF2C.out;refine tS (fun w'=>w'.cell? ⟨wr.heap.size,0,none⟩=some (.int .i64 t9)∧w'.cell? ⟨wr.heap.size,1,none⟩=some (.slice A1 xo.length c1)∧w'.cell? ⟨wr.heap.size,2,none⟩=some (.slice A2 xn.length c2)∧w'.cell? ⟨w.heap.size,0,none⟩=some (.int .i64 s.version)∧w'.cell? ⟨w.heap.size,1,none⟩=some (.slice A0 s.tabs.length c0')) 8 8 fun Q' HQ HP=>?_;refine tX 0 38 1 39 2 40 3 41 (bA 8 15) HP.out ⟨a0,a1,a2,hs0,hs1⟩ ?_;refine tJ 4 42 (bA 8 31) HP.out ⟨a0,a1,a2,hs0,hs1⟩ ?_;refine tQ 5 (some 43) (bA 8 63) fun K HK=>?_;go_simp;refine(keyOf_any A0 c0' s t9 xo xn A1 c1 A2 c2 (fun b=>S b∨New w1 w2 b) W1.drew (((HS.out.keep (Same.of_below HFW.out hS)).keep (w':=W1.drew) (fun _ _=>rfl)).more (fun b hb=>Or.inl hb)) (((HR1.out).keep (w':=W1.drew) (fun _ _=>rfl)).more (fun b hb=>Or.inr hb)) hco (((HR2.out).keep (w':=W1.drew) (fun _ _=>rfl)).more (fun b hb=>Or.inr hb)) hcn (fun b hb=>by show b<W1.heap.size;rcases hb with hb | hb;{ have:=hS b hb;omega };have:=HNW.out b hb;omega) htl hkl.2.1 h01).mono ?_;rintro e w4 ⟨A4,c4,rfl,h4,hb4⟩;have hv1:Below W1.heap.size W1 w4:=(Below.refl _ W1).drew.trans hb4;have HK4:=hI (show RowS w4 (fun b=>b<w4.heap.size) A4 (ZdB s ⟨t9,xo,xn⟩) from (ZbF (Zdy HKV.out.1 HKV.out.2) h4).more (fun b hb=>hb.2));have hv1s:=hv1.size;have q0:=cQ hv1 hzw a0;have q1:=cQ hv1 hzw a1;have q2:=cQ hv1 hzw a2;have q3:=cQ hv1 hzs hs0;have q4:=cQ hv1 hzs hs1;clear hb4 h4;refine HK.out _ _ (fun _=>⟨q0,q1,q2,q3,q4⟩) ?_;clear HK K
        try simp only [Act.put,psA,psB,psC]
        refine tQ 6 (some 44) (bA 8 127) fun K HK=>?_;go_simp;refine(Zez (q:Int) t9 A4 c4 (ZdB s ⟨t9,xo,xn⟩) (fun b=>b<w4.heap.size) w4 hn1 hn4 HK4.out (fun b hb=>hb) HKV.out.1 HKV.out.2).mono ?_;rintro e w5 ⟨rfl,hb5⟩;have hv2:Below W1.heap.size W1 w5:=hv1.trans (hb5.mono hv1s);have HRB:=hI hv2;have p0:=cQ hv2 hzw a0;have p1:=cQ hv2 hzw a1;have p2:=cQ hv2 hzw a2;have p3:=cQ hv2 hzs hs0;have p4:=cQ hv2 hzs hs1;clear hb5 HK4 q0 q1 q2 q3 q4 hv1s;refine HK.out _ _ (fun _=>⟨p0,p1,p2,p3,p4⟩) ?_;clear HK K
        try simp only [Act.put,psA,psB,psC]
        refine tJ 7 14 (bA 8 255) HP.out ⟨p0,p1,p2,p3,p4⟩ ?_;refine tE HQ ?_;clear HQ HP Q';have HGX:=hI (HGR.out.below (HBX.out.trans (hv2.mono (by omega))));have HB5:=hI (HFW.out.trans (hv2.mono (by omega)));have HFX:=hI (HFR.out.trans (Fr.of_below (HBX.out.trans (hv2.mono (by omega)))) (X:=fun b=>b=gP) (Y:=fun _=>False) (fun b hb h=>h.elim));have hw5:=hv2.size;clear hv1 hv2 p3 p4 HBX HFW hs0 hs1 a0 a1 a2
        go_wp2_with fail
        obtain⟨hj1,hj2'⟩:=HHL.out;rw [hj2'];rw [Int.toNat_natCast] at hj1;obtain⟨j,hj⟩:∃ j,Zba s q ⟨t9,xo,xn⟩=j:=⟨_,rfl⟩;have HJ:=hI hj;rw [hj] at hj1 ⊢;have hjq:(j:Int)<(q:Int):=(by omega);have hj0:(0:Int)≤(j:Int):=(by omega);clear hj hj2';obtain⟨AV,cV,hAV⟩:=HGX.out.form (i:=0) (j:=j) (by omega) hj1;obtain⟨g2,g3⟩:=HGX.out.cell (i:=0) (j:=j) (by omega) hj1;rw [hAV] at g2;have HOW:=hI (show (V 0 j).ownBlock≠some wr.heap.size from fun e=>by have:=((HGR.out.own 0 j (by omega) hj1).lt e).2;omega);have HAV:=hI hAV;clear hAV;obtain⟨m,hm⟩:∃ m,(((N.take k).filter fun c=>Zba s q c == j).map ZaC).length=m:=⟨_,rfl⟩;have hmL:m≤1000:=(by rw [←hm,List.length_map];exact HTL.out j);rw [hm] at g2;have HM:=hI hm;clear hm;have hgl:gP<w5.heap.size:=(by omega);have hxl:wr.heap.size<w5.heap.size:=(by omega);have HOG:=hI (show ∀ b,(V 0 j).ownBlock=some b→w3.heap.size≤b from fun b e=>((HGR.out.own 0 j (by omega) hj1).lt e).1);have HVC:=hI (show ∀ wd,Below w5.heap.size w5 wd→Dat.Vals wd (Oth (New w1 w2) wd w3.heap.size 1 q V) (ZaC ⟨t9,xo,xn⟩) [.int .i64 t9,.slice A1 xo.length c1,.slice A2 xn.length c2] from fun wd hwd=>Zdq ⟨hco,(((HR1.out.keep (Same.of_below HRB.out (fun b hb=>by have:=HNW.out b hb;omega))).keep (Same.of_below hwd (fun b hb=>by have:=HNW.out b hb;omega))).more (fun b hb=>.inl hb))⟩ ⟨hcn,(((HR2.out.keep (Same.of_below HRB.out (fun b hb=>by have:=HNW.out b hb;omega))).keep (Same.of_below hwd (fun b hb=>by have:=HNW.out b hb;omega))).more (fun b hb=>.inl hb))⟩);refine tS (fun w'=>w'.frozen? ⟨gP,j,none⟩=false∧w'.cell? ⟨gP,j,none⟩=some (.slice AV m cV)∧w'.cell? ⟨wr.heap.size,0,none⟩=some (.int .i64 t9)∧w'.cell? ⟨wr.heap.size,1,none⟩=some (.slice A1 xo.length c1)∧w'.cell? ⟨wr.heap.size,2,none⟩=some (.slice A2 xn.length c2)) 10 11 fun Q' HQ HP=>?_;obtain⟨wd,hwd⟩:∃ wd,w5.drew=wd:=⟨_,rfl⟩;have HBD:=hI (show Below w5.heap.size w5 wd by rw [←hwd];exact(Below.refl _ w5).drew);have hwz:wd.heap.size≤w5.heap.size∧w5.heap.size≤wd.heap.size:=(by rw [←hwd];exact⟨Nat.le_refl _,Nat.le_refl _⟩);have HGX:=hI (HGX.out.below HBD.out);have HFX:=hI (HFX.out.trans (Fr.of_below HBD.out) (Y:=fun _=>False) (fun b hb h=>h.elim));have HVC:=hI (HVC.out wd HBD.out);have g2:=cQ HBD.out hgl g2;have g3:=(HBD.out.frozen (p:=⟨gP,j,none⟩) hgl).trans g3;have u0:=cQ HBD.out hxl p0;have u1:=cQ HBD.out hxl p1;have u2:=cQ HBD.out hxl p2;have hgl:gP<wd.heap.size:=(by omega);have hxl:wr.heap.size<wd.heap.size:=(by omega);rw [hwd];clear hwd p0 p1 p2;refine tX 0 45 1 46 2 47 3 48 (bA 11 15) HP.out ⟨g3,g2,u0,u1,u2⟩ ?_;refine tW 4 49 5 50 (bA 11 63) HP.out ⟨g3,g2,u0,u1,u2⟩ ?_;refine tJ 6 51 (bA 11 127) HP.out ⟨g3,g2,u0,u1,u2⟩ ?_;refine tQ 7 (some 52) (bA 11 255) fun K HK=>?_;go_simp;have l3:(wd.alloc (.cells #[.int .i64 t9,.slice A1 xo.length c1,.slice A2 xn.length c2] 53)).frozen? ⟨gP,j,none⟩=_:=(Zcp hgl).trans g3;have l2:(wd.alloc (.cells #[.int .i64 t9,.slice A1 xo.length c1,.slice A2 xn.length c2] 53)).cell? ⟨gP,j,none⟩=_:=(Zaj hgl).trans g2;have m0:(wd.alloc (.cells #[.int .i64 t9,.slice A1 xo.length c1,.slice A2 xn.length c2] 53)).cell? ⟨wr.heap.size,0,none⟩=_:=(Zaj hxl).trans u0;have m1:(wd.alloc (.cells #[.int .i64 t9,.slice A1 xo.length c1,.slice A2 xn.length c2] 53)).cell? ⟨wr.heap.size,1,none⟩=_:=(Zaj hxl).trans u1;have m2:(wd.alloc (.cells #[.int .i64 t9,.slice A1 xo.length c1,.slice A2 xn.length c2] 53)).cell? ⟨wr.heap.size,2,none⟩=_:=(Zaj hxl).trans u2;refine HK.out _ _ (fun _=>⟨l3,l2,m0,m1,m2⟩) ?_;clear HK K
        try simp only [Act.put,psA,psB,psC]
        refine anyT_one (i:=8) (o:=⟨some 53,_,_,_,_,_⟩) (L':=(bA 11 511)) rfl (by kernel_rfl) (by kernel_rfl) (fun K hK=>?_);refine step_append_grid (by rfl) (.tmp 50) (.tmp 52) 48 (by rfl) i0 _ 56 Try.underlying48 hi hj0' hj1' hj2'' rfl (by decide) wd HGX.out (i:=0) (j:=j) (by omega) hj1 (by rw [HAV.out,HM.out];rfl) (ZaC ⟨t9,xo,xn⟩) #[.int .i64 t9,.slice A1 xo.length c1,.slice A2 xn.length c2] HVC.out (Zdn _) (Zbk _) 1 (by rfl) (by rw [HM.out];omega) (by rw [HM.out];omega) ?_;rw [HM.out];intro g7 c7 w7 hg7 hr7;have HG7:=hI hg7;have HR7:=hI hr7;have n2:=(hg7.cell (i:=0) (j:=j) (by omega) hj1).1;rw [HAV.out,HM.out] at n2;have n3:=(hg7.cell (i:=0) (j:=j) (by omega) hj1).2;have n40:=(hr7.cell_far ⟨wr.heap.size,0,none⟩ hxl (fun e=>HOW.out e.symm)).trans u0;have n41:=(hr7.cell_far ⟨wr.heap.size,1,none⟩ hxl (fun e=>HOW.out e.symm)).trans u1;have n42:=(hr7.cell_far ⟨wr.heap.size,2,none⟩ hxl (fun e=>HOW.out e.symm)).trans u2;clear hg7 hr7;refine hK _ _ (fun _=>⟨n3,n2,n40,n41,n42⟩) ?_;clear hK K
        try simp only [Act.put,psA,psB,psC]
        refine tJ 9 54 (bA 11 1023) HP.out ⟨n3,n2,n40,n41,n42⟩ ?_;refine tQ 10 none (bA 11 2047) fun K HK=>?_;go_simp;refine HK.out _ _ (fun h=>absurd rfl h) ?_;clear HK K;refine tE HQ ?_;clear HQ HP Q';have HGN:=hI (HG7.out.store (i:=0) (j:=j) (by omega) hj1 (.slice (some ⟨g7,0,none⟩) (m+1) c7));have HFN:=hI (show Fr (fun b=>b=gP) w3 (w7.setCell ⟨gP,j,none⟩ (.slice (some ⟨g7,0,none⟩) (m+1) c7)) from (HFX.out.trans (Y:=fun b=>w3.heap.size≤b) (Fr.of_grown HR7.out (fun b hb e=>HOG.out b e.symm)) (fun b hb h=>absurd hb (by omega))).setCell _ (fun _=>rfl));clear HGX HFX HG7 HR7 HAV g2 g3
        go_wp2_with fail
        go_roundw
        case rel =>
         refine⟨k+1,upd V 0 j (.slice (some ⟨g7,0,none⟩) (m+1) c7),by omega,by go_num,HFN.out,HGN.out.congr (fun a c ha hc=>?_)⟩;obtain rfl:a=0:=(by omega);rw [HTK.out,filter_snoc,List.map_append,HJ.out]
         by_cases hcj:j=c
         · subst hcj;rw [if_pos rfl,Zbs];rfl
         · rw [if_neg hcj,ZbY (by omega)];simp
        case measure=>(simp [intOf];omega)
      · have hdk:decide (k<N.length)=false:=(by simp;omega);have HTK:=hI (show N.take k=N from List.take_of_length_le (by omega))
        have HEND:=hI (show SplP (Zbr s q l) w (.returned (.tuple #[.slice (some ⟨gP,0,none⟩) q q,.int .i64 0])) wr by
         rw [HSP3.out]
         obtain⟨vs,hv1,hv2⟩:=HGR.out.row (i:=0) (by omega) (fun j _=>by rw [HTK.out,Zag (n:=56) (fun _=>rfl)];have h9:=List.length_filter_le (fun c=>Zba s q c == j) N;omega) (S':=New w wr) (fun b hb=>by
          rcases hb with hb | hb
          · have:=HNW.out b hb;exact⟨by omega,by omega⟩
          · exact⟨by omega,hb.2⟩)
         have hle:(List.range q).map (fun j=>Dat.slice (((N.take k).filter fun c=>Zba s q c == j).map ZaC))=(ZbA q (Zba s q) N).map ZcX:=by
          unfold ZbA ZcX;rw [List.map_map,HTK.out];rfl
         rw [hle] at hv2;refine⟨some ⟨gP,0,none⟩,q,by rw [Zbh],by rw [Zbh];exact Nat.le_refl _,Sl.of_vals (by rw [Zag (n:=24) (fun _=>rfl),Zbh];omega) hv2 (fun _=>⟨gP,0,rfl,⟨by omega,by omega⟩,fun j u hu=>?_⟩),HB3.out.trans (HFR.out.below (n:=w.heap.size) (by omega) (fun b hb=>by omega))⟩;exact Zaa hv1 j u hu)
        go_wp2_with fail
        exact bodyPost_ret (v:=.tuple #[.slice (some ⟨gP,0,none⟩) q q,.int .i64 0]) (by simp [results,Try.results39,go_sem]) rfl HEND.out
   · have hd0:(re != 0)=true:=(by simp [hr]);have HF:=hI (show Zbr s n l=(re,[]) by rw [HSP2.out,if_pos hr])
     go_wp2_with fail
     exact bodyPost_ret (v:=.tuple #[.slice none 0 0,.int .i64 re]) (by simp [results,Try.results39,go_sem]) rfl (SplP.err HF.out HB2.out)
 · have hd0:(er != 0)=true:=(by simp [he]);have HF:=hI (show Zbr s n l=(er,[]) by rw [HSP.out,if_pos he])
   go_wp2_with fail
   exact bodyPost_ret (v:=.tuple #[.slice none 0 0,.int .i64 er]) (by simp [results,Try.results39,go_sem]) rfl (SplP.err HF.out HB1.out)
theorem ZdA {w:World} {base size n c gl:Nat} {e:TypeId} {vals:List Value} (h:w.ownsRow base e size (.slice (some ⟨gl,0,none⟩) n c) n vals) (k:Nat) (x:Value):(w.setCell ⟨gl,k,none⟩ x).ownsRow base e size (.slice (some ⟨gl,0,none⟩) n c) n (vals.set k x):=by
 rcases h.2 with ⟨e,_⟩ | ⟨g',cap,cur,e1,b1,hh,b2,b3,b4,b5⟩
 · injection e with e _ _;cases e
 · obtain⟨vs⟩:=cur;have eg:gl=g':=(by injection e1 with e1 _ _;injection e1 with e1;injection e1);subst eg;refine⟨by rw [List.length_set];exact h.1,.inr ⟨gl,cap,(vs.set k x).toArray,e1,b1,Zad hh,b2,b3,by simpa using b4,?_⟩⟩;have b5':vs.take (n*size)=vals:=b5;show (vs.set k x).take (n*size)=_;rw [←b5',List.take_set]
theorem Zbi {w:World} {base size n c gl:Nat} {e:TypeId} {vals:List Value} (h:w.ownsRow base e size (.slice (some ⟨gl,0,none⟩) n c) n vals) {k:Nat} {x:Value} (hk:vals[k]?=some x):w.cell? ⟨gl,k,none⟩=some x∧w.frozen? ⟨gl,k,none⟩=false:=by
 rcases h.2 with ⟨e,_⟩ | ⟨g',cap,cur,e1,b1,hh,b2,b3,b4,b5⟩
 · injection e with e _ _;cases e
 · obtain⟨vs⟩:=cur;have eg:gl=g':=(by injection e1 with e1 _ _;injection e1 with e1;injection e1);subst eg;have b5':vs.take (n*size)=vals:=b5;refine⟨(show w.cell? ⟨gl,k,none⟩=w.cell? ⟨gl,0+k,none⟩ by rw [Nat.zero_add]).trans (Zaa hh k _ ?_),by simp [World.frozen?,hh]⟩;rw [←b5',List.getElem?_take] at hk;split at hk
   · exact hk
   · cases hk
theorem Zcb:∀ (r:Row) (k:Nat),k<r.length→(Zam r)[k*3]?=some (.int .i64 (r.getD k v0).k)∧(Zam r)[k*3+1]?=some (.int .i64 (r.getD k v0).i)∧(Zam r)[k*3+2]?=some (.string (r.getD k v0).t)
 | [],k,h=>by simp at h
 | v :: r,0,_=>⟨rfl,rfl,rfl⟩
 | v :: r,k+1,h=>by
  have:=Zcb r k (by simpa using h);rw [show (k+1)*3=k*3+1+1+1 by omega];simpa [Zam] using this
theorem Zdx:∀ (r:Row) (k:Nat) (v:V),k<r.length→(((Zam r).set (k*3) (.int .i64 v.k)).set (k*3+1) (.int .i64 v.i)).set (k*3+2) (.string v.t)=Zam (r.set k v)
 | [],k,v,h=>by simp at h
 | u :: r,0,v,_=>rfl
 | u :: r,k+1,v,h=>by
  have:=Zdx r k v (by simpa using h);rw [show (k+1)*3=k*3+1+1+1 by omega];simp only [Zam,List.set_cons_succ];rw [this]
theorem ZeL {s:Sch} (h:schF pcF s=0):schF pcF ⟨-1,s.tabs⟩=70:=by
 unfold schF at h ⊢
 by_cases h1:8<s.tabs.length
 · rw [if_pos h1] at h;omega
 rw [if_neg h1] at h
 by_cases h2:s.tabs.any bigT=true
 · rw [if_pos h2] at h;omega
 rw [if_neg h1,if_neg h2,if_pos (.inl (by show (-1:Int)<0;omega))]
theorem merge_bad (A0:Option Addr) (c0':Nat) (s:Sch) (AP:Option Addr) (n cp:Nat) (S:Nat→Prop) (w:World) (hs:TabS w S A0 s.tabs) (hS:∀ b,S b→b<w.heap.size) (hn:n≤1000) (he:Zaw s n≠0) :
  Calls Try.prog 40 #[sAgg s.version A0 s.tabs.length c0',.slice AP n cp] w (fun e w'=>e=.returned (.tuple #[.slice none 0 0,.int .i64 (Zaw s n)])∧Below w.heap.size w w'):=by
 have hsl:=hs.len;have HS:=hI hs;clear hs;have HB0:=hI ((Below.refl w.heap.size w).alloc nR (.cells #[.int .i64 s.version,.slice A0 s.tabs.length c0'] 25));obtain⟨er,her⟩:∃ er,Zaw s n=er:=⟨_,rfl⟩;have HER:=hI her;rw [her] at he ⊢;clear her;have hd0:(er != 0)=true:=(by simp [he]);go_enter Try.func40,Try.ntmps40
 go_wp2_with fail
 refine(ZaZ A0 c0' s n S _ (HS.out.keep (Same.of_below HB0.out hS)) (fun b hb=>by have:=hS b hb;simp;omega)).mono ?_;rintro e w1 ⟨rfl,hb1⟩;rw [HER.out];have HB1:=hI (HB0.out.trans (hb1.mono (by simp)));clear hb1
 go_wp2_with fail
 exact bodyPost_ret (v:=.tuple #[.slice none 0 0,.int .i64 er]) (by simp [results,Try.results40,go_sem]) rfl ⟨rfl,HB1.out⟩
theorem parts_bad (A0:Option Addr) (c0':Nat) (s:Sch) (n:Int) (A:Option Addr) (k cp:Nat) (S:Nat→Prop) (w:World) (hs:TabS w S A0 s.tabs) (hS:∀ b,S b→b<w.heap.size) (he:Zaw s n≠0) :
  Calls Try.prog 41 #[sAgg s.version A0 s.tabs.length c0',.int .i64 n,ZeK A k cp] w (fun e w'=>e=.returned (.tuple #[.slice none 0 0,.int .i64 (Zaw s n)])∧Below w.heap.size w w'):=by
 have hsl:=hs.len;have HS:=hI hs;clear hs;have HB0:=hI (((Below.refl w.heap.size w).alloc nR (.cells #[.int .i64 s.version,.slice A0 s.tabs.length c0'] 25)).alloc (by simp) (.cells #[.slice A k cp] 56));obtain⟨er,her⟩:∃ er,Zaw s n=er:=⟨_,rfl⟩;have HER:=hI her;rw [her] at he ⊢;clear her;have hd0:(er != 0)=true:=(by simp [he]);go_enter Try.func41,Try.ntmps41
 go_wp2_with fail
 refine(ZaZ A0 c0' s n S _ (HS.out.keep (Same.of_below HB0.out hS)) (fun b hb=>by have:=hS b hb;simp;omega)).mono ?_;rintro e w1 ⟨rfl,hb1⟩;rw [HER.out];have HB1:=hI (HB0.out.trans (hb1.mono (by simp;omega)));clear hb1
 go_wp2_with fail
 exact bodyPost_ret (v:=.tuple #[.slice none 0 0,.int .i64 er]) (by simp [results,Try.results41,go_sem]) rfl ⟨rfl,HB1.out⟩
theorem join_bad (A0:Option Addr) (c0':Nat) (s:Sch) (AP:Option Addr) (n cp:Nat) (S:Nat→Prop) (w:World) (hs:TabS w S A0 s.tabs) (hS:∀ b,S b→b<w.heap.size) (hn:n≤1000) (he:Zaw s n≠0) :
  Calls Try.prog 42 #[sAgg s.version A0 s.tabs.length c0',.slice AP n cp] w (fun e w'=>e=.returned (.tuple #[.agg #[.slice none 0 0],.int .i64 (Zaw s n)])∧Below w.heap.size w w'):=by
 have hsl:=hs.len;have HS:=hI hs;clear hs;have HB0:=hI (((Below.refl w.heap.size w).alloc nR (.cells #[.int .i64 s.version,.slice A0 s.tabs.length c0'] 25)).alloc (by simp) (.cells #[.slice none 0 0] 56));obtain⟨er,her⟩:∃ er,Zaw s n=er:=⟨_,rfl⟩;have HER:=hI her;rw [her] at he ⊢;clear her;have hd0:(er != 0)=true:=(by simp [he]);go_enter Try.func42,Try.ntmps42
 go_wp2_with fail
 refine(ZaZ A0 c0' s n S _ (HS.out.keep (Same.of_below HB0.out hS)) (fun b hb=>by have:=hS b hb;simp;omega)).mono ?_;rintro e w1 ⟨rfl,hb1⟩;rw [HER.out];have x3:w1.cell? ⟨w.heap.size+1,0,none⟩=some (.slice none 0 0):=cQ hb1 (by simp) (Zaf (by simp) rfl);have x4:w1.frozen? ⟨w.heap.size+1,0,none⟩=false:=(hb1.frozen (p:=⟨w.heap.size+1,0,none⟩) (by simp)).trans (ZaO (by simp));have hw1:w.heap.size+1<w1.heap.size:=(by have:=hb1.size;simp at this;omega);have HB1:=hI (HB0.out.trans (hb1.mono (by simp;omega)));clear hb1
 go_wp2_with fail
 obtain⟨w2,hw2⟩:∃ w2,w1.setCell ⟨w.heap.size+1,0,none⟩ (.slice none 0 0)=w2:=⟨_,rfl⟩;have r0:w2.cell? ⟨w.heap.size+1,0,none⟩=some (.slice none 0 0):=(by rw [←hw2];exact World.cell?_setCell_same _ _ _ x3);have HB2:=hI (show Below w.heap.size w w2 by rw [←hw2];exact HB1.out.setCell (p:=⟨w.heap.size+1,0,none⟩) (by simp) _)
 try rw [hw2]
 refine bodyPost_ret (v:=.tuple #[.agg #[.slice none 0 0],.int .i64 er]) (by simp [results,Try.results42,go_sem,r0]) rfl ⟨rfl,HB2.out⟩
theorem touched_bad (A0:Option Addr) (c0':Nat) (s:Sch) (n:Int) (S:Nat→Prop) (w:World) (hs:TabS w S A0 s.tabs) (hS:∀ b,S b→b<w.heap.size) (he:Zaw s n≠0) :
  Calls Try.prog 43 #[sAgg s.version A0 s.tabs.length c0',.int .i64 n,.slice none 0 0] w (fun e w'=>e=.returned (.tuple #[.slice none 0 0,.int .i64 (Zaw s n)])∧Below w.heap.size w w'):=by
 have hsl:=hs.len;have HS:=hI hs;clear hs;have HB0:=hI ((Below.refl w.heap.size w).alloc nR (.cells #[.int .i64 s.version,.slice A0 s.tabs.length c0'] 25));obtain⟨er,her⟩:∃ er,Zaw s n=er:=⟨_,rfl⟩;have HSP:=hI (show Zbr s n []=(er,[]) by unfold Zbr;rw [her,if_pos (by rw [←her];exact he)]);have hd0:(er != 0)=true:=(by rw [←her];simp [he])
 have HNE:=hI (show schF pcF s=0→(netF 0 s 1 []).1=0→∀ c ∈ (netF 0 s 1 []).2,ChgN s c from fun _ _ c hc=>by
  have e:(netF 0 s 1 []).2=[]:=(by kernel_rfl);rw [e] at hc;simp at hc)
 have HNL:=hI (show (netF (schF pcF s) s 1 []).2.length≤1000 by
  unfold netF;split
  · simp
  · have e:Zap s none (Zbc (cmpC s) (List.take (Zbd s 1 []) []))=some []:=(by rw [List.take_nil];rfl);simp only [e];split<;>simp)
 rw [her];clear her he;go_enter Try.func43,Try.ntmps43
 go_wp2_with fail
 have hsp:=ZbZ A0 c0' s n none 0 [] S _ (HS.out.keep (Same.of_below HB0.out hS)) (ChgS.nil_) (fun b hb=>by have:=hS b hb;simp;omega) (by simp) HNE.out HNL.out;rw [HSP.out] at hsp;refine(show Calls _ _ _ _ _ from hsp).mono ?_;rintro e w1 ⟨A1,c1,rfl,-,-,hb1⟩;clear hsp;have HB1:=hI (HB0.out.trans (hb1.mono (by simp)));clear hb1;dsimp only
 go_wp2_with fail
 exact bodyPost_ret (v:=.tuple #[.slice none 0 0,.int .i64 er]) (by simp [results,Try.results43,go_sem]) rfl ⟨rfl,HB1.out⟩
theorem fits_set {s:Sch} (hg:GenS s) {t:Nat} (ht:t<s.tabs.length) {r:Row} (h:ZaF s t r 1=true) {k:Nat} (hk:k<r.length) (hk2:(s.tabs.getD t t0).key≤k) {v:V} (hv:ZdR (ZbN (r.getD k v0).k) v) :
  ZaF s t (r.set k v) 1=true∧keyF s t (r.set k v)=keyF s t r:=by
 have h0:=h;unfold ZaF at h0;simp only [Bool.and_eq_true,decide_eq_true_eq,Int.toNat_natCast] at h0;obtain⟨⟨⟨h1,h2⟩,h3⟩,h4⟩:=h0;have hat:=ZdI h4 h3;have hkc:k<(s.tabs.getD t t0).cols.length:=(by omega)
 have hkd:(r.getD k v0).k=((s.tabs.getD t t0).cols.getD k c0).kind:=by
  have h5:=hat k hkc;unfold Zaq at h5;simp only [Bool.and_eq_true,Bool.or_eq_true,decide_eq_true_eq] at h5;rcases h5.2 with (h6 | h6) | h6
  · exact h6
  · exact absurd rfl h6.1.2
  · exact absurd h6.1.2 (by decide)
 have hkk:ZbN (r.getD k v0).k=(r.getD k v0).k:=by
  have h5:=(hg.tab ht).2.2.2.2 ((s.tabs.getD t t0).cols.getD k c0) (by rw [Zcy hkc];exact List.getElem_mem hkc);rw [hkd];rcases h5 with h5 | h5 | h5<;>rw [h5]<;>decide
 refine⟨?_,?_⟩
 · unfold ZaF;simp only [Bool.and_eq_true,decide_eq_true_eq,Int.toNat_natCast];refine⟨⟨⟨h1,h2⟩,by rw [List.length_set];exact h3⟩,Zcz (by rw [List.length_set];exact h3) (fun j hj=>?_)⟩
   by_cases e:k=j
   · subst e;have e2:(r.set k v).getD k v0=v:=(by simp [List.getD,hk]);rw [e2,←hkd,←hkk];exact Zcg hv
   · have e2:(r.set k v).getD j v0=r.getD j v0:=(by simp [List.getD,List.getElem?_set_ne e]);rw [e2];exact hat j hj
 · rw [Zfy ht,Zfy ht];unfold keyN;rw [List.length_set];exact List.take_set_of_le (by omega)
theorem Zcw {s:Sch} {t:Nat} {r:Row} (ht:t<s.tabs.length) (h:ZaF s t r 1=true) (hr:0<r.length):Zaz s 1 ⟨t,[],r⟩=true∧netF 0 s 1 [⟨t,[],r⟩]=(0,[⟨t,[],r⟩]):=by
 have hv:Zaz s 1 ⟨t,[],r⟩=true:=by
  unfold Zaz;have hh:hasN s.tabs.length (t:Int)=true:=(by simp [hasN];omega);have h0:r.length≠0:=(by omega);simp [hh,h,h0]
 refine⟨hv,?_⟩
 have hg:Zbd s 1 [⟨t,[],r⟩]=1:=by
  simp [Zbd,hv]
 unfold netF;have hm:ZcG 0 1=0:=(by decide);rw [if_neg (by rw [hm];simp),hg]
 have hc:¬ cmpR [] r=0:=fun e=>by
  have:=(cmpR_is.zero _ _).1 e;rw [←this] at hr;simp at hr
 have e:Zap s none (Zbc (cmpC s) (List.take 1 [⟨t,[],r⟩]))=some [⟨t,[],r⟩]:=by
  show some (ZaJ ⟨t,[],r⟩ ⟨t,[],r⟩)=_;unfold ZaJ;rw [if_neg hc]
 rw [e];simp
theorem Zes {s:Sch} (hs:schF pcF s=0) {t:Nat} {r:Row} (ht:t<s.tabs.length) (h:ZaF s t r 1=true) (hr:0<r.length):Zbr s 3 [⟨t,[],r⟩]=(0,ZbA 3 (Zba s 3) [⟨t,[],r⟩]):=by
 unfold Zbr;have h1:Zaw s 3=0:=(by unfold Zaw;rw [if_neg (by omega)];exact hs);rw [h1,if_neg (by simp),hs,(Zcw ht h hr).2,if_neg (by simp)];rfl
theorem home_same {s:Sch} {t:Nat} {r x:Row} (hr:0<r.length) (hx:0<x.length) (hk:keyF s t x=keyF s t r):Zba s 3 ⟨t,[],x⟩=Zba s 3 ⟨t,[],r⟩:=by
 unfold Zba ZdB;simp only;rw [if_pos hr,if_pos hx,hk]
end Go.Proofs.Ytkpjjfhfbpfjpaa
