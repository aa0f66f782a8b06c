import Derived.Test.YtkpjjfhfbpfjpaaGreatK122a8f
import Derived.Test.YtkpjjfhfbpfjpaaGreatK4e30bf
import Derived.Deep.Cut
import Derived.Test.YtkpjjfhfbpfjpaaGreatK8dea75
import Derived.Test.YtkpjjfhfbpfjpaaGreatKa64ff6
import Derived.Deep.CutBlock
import Derived.Deep.CutRange
import Derived.Deep.DeepCutAuto
import Derived.Test.YtkpjjfhfbpfjpaaGreatKfa25bd
set_option linter.unusedVariables false
set_option linter.unusedSimpArgs false
set_option maxRecDepth 100000
set_option maxHeartbeats 8000000
namespace Go.Proofs.YtkpjjfhfbpfjpaaGreat
open Go.RowKit
theorem infoLC:(Tryz.prog.info? 23).map (fun i=>(i.zero,i.size,i.bytes))=some (some (.slice none 0 0),1,24):=by kernel_rfl
theorem ZdU (n:Nat) (hn:n≤1000) (w:World) :
  (Instr.makeSlice 60 (.int .i64 (n:Int)) (.int .i64 (n:Int))).run Tryz.prog w=.ok (.slice (some ⟨w.heap.size,0,none⟩) n n) (w.alloc (.cells (Zam n).toArray 23)):=by
 obtain⟨i0,hi,hz0,hz1,hz2⟩:=info_parts infoLC;have hr:=run_make (P:=Tryz.prog) w 60 23 i0 _ Tryz.underlying60 hi hz0 .i64 .i64 n n (by omega) (by omega) (by rw [hz2];omega) (by omega);rw [hr,hz1];simp only [Int.toNat_natCast]
 congr 3
 apply Array.ext
 · simp [size_madeCells,Zam]
 · intro i h1 h2;simp [madeCells,Zam,Value.cells,Nat.mod_one]
theorem Zgs (A0:Option Addr) (c0':Nat) (s:Sch) (n:Int) (AC:Option Addr) (cc:Nat) (l:List Chg) (S:Nat→Prop) (w:World) (hs:TabS w S A0 s.tabs) (hch:ChgS w S AC l) (hS:∀ b,S b→b<w.heap.size) (hll:l.length≤19)
  (hgd:schF pcF s=0→(netF 0 s 1 l).1=0→∀ c ∈ (netF 0 s 1 l).2,ChgN s c) (hnl:(netF (schF pcF s) s 1 l).2.length≤1000) :
  Calls Tryz.prog 32 #[sAgg s.version A0 s.tabs.length c0',.int .i64 n,.slice AC l.length cc] w (SplP (ZcX s n l) w):=by
 have hsl:=hs.len;have HS:=hI hs;have HCH:=hI hch;clear hs hch;obtain⟨i0,hi,hj0',hj1',hj2''⟩:=info_parts infoC;obtain⟨er,her⟩:∃ er,Zbi s n=er:=⟨_,rfl⟩;have HER:=hI her;have HSP:=hI (show ZcX s n l=if er≠0 then (er,[]) else if (netF (schF pcF s) s 1 l).1≠0 then ((netF (schF pcF s) s 1 l).1,[]) else (0,ZaH n.toNat (Zbh s n) (netF (schF pcF s) s 1 l).2) by unfold ZcX;rw [her]);clear her;obtain⟨W0,hW0⟩:∃ W0,w.alloc (.cells #[.int .i64 s.version,.slice A0 s.tabs.length c0'] 28)=W0:=⟨_,rfl⟩;have HB0:=hI (show Below w.heap.size w W0 by rw [←hW0];exact(Below.refl w.heap.size w).alloc nR _);have hz0:W0.heap.size≤w.heap.size+1∧w.heap.size+1≤W0.heap.size:=(by rw [←hW0];simp);have SB:=hI (show W0.heap[w.heap.size]?=some (.cells #[.int .i64 s.version,.slice A0 s.tabs.length c0'] 28 (0,0)) by rw [←hW0];exact heap_alloc_new w _);have x0:W0.cell? ⟨w.heap.size,0,none⟩=some (.int .i64 s.version):=Zaa SB.out 0 _ rfl;have x1:W0.cell? ⟨w.heap.size,1,none⟩=some (.slice A0 s.tabs.length c0'):=Zaa SB.out 1 _ rfl;have hws:w.heap.size<W0.heap.size:=(by omega);go_enter Tryz.func32,Tryz.ntmps32
 go_wp2_with fail
 try rw [hW0]
 clear hW0;refine(Zbr A0 c0' s n S W0 (HS.out.keep (Same.of_below HB0.out hS)) (fun b hb=>by have:=hS b hb;omega)).mono ?_;rintro e w1 ⟨rfl,hb1⟩;rw [HER.out];have y0:=c9Q hb1 hws x0;have y1:=c9Q hb1 hws x1;have HB1:=hI (HB0.out.trans (hb1.mono (by omega)));have hw1:w.heap.size<w1.heap.size:=(by have:=hb1.size;omega);clear hb1 x0 x1 HB0 SB
 by_cases he:er=0
 · subst he;obtain⟨hn1,hn4,hsc⟩:=Zhp HER.out;have HSC:=hI hsc;rw [hsc] at hnl;have HGD:=hI (hgd hsc);have HSP2:=hI (show ZcX s n l=if (netF 0 s 1 l).1≠0 then ((netF 0 s 1 l).1,[]) else (0,ZaH n.toNat (Zbh s n) (netF 0 s 1 l).2) by rw [HSP.out,if_neg (by simp),hsc]);clear HSP hsc hgd
   go_wp2_with fail
   refine(Zha pcF A0 c0' s 1 AC cc l S w1 (HS.out.keep (Same.of_below HB1.out hS)) (HCH.out.keep (Same.of_below HB1.out hS)) (fun b hb=>by have:=hS b hb;omega) (Zcy s) (by have:=ZdT HSC.out;omega) hll).mono ?_;rw [HSC.out];generalize netF 0 s 1 l=r at *;obtain⟨re,N⟩:=r;simp only at hnl HSP2 HGD;rintro e w2 ⟨AN,cN,rfl,hcN,hN,hb2⟩;simp only at hcN hN;have HN:=hI hN;have HCN:=hI hcN;have z0:=c9Q hb2 hw1 y0;have z1:=c9Q hb2 hw1 y1;have HB2:=hI (HB1.out.trans (hb2.mono (by omega)));have hw2:w1.heap.size≤w2.heap.size:=hb2.size;clear hN hcN hb2 y0 y1
   by_cases hr:re=0
   · subst hr;have HGE:=hI (show ∀ c ∈ N,ChgN s c from fun c hc=>HGD.out (by simp) c hc);obtain⟨q,rfl⟩:=Int.eq_ofNat_of_zero_le (show 0≤n by omega);have HSP3:=hI (show ZcX s q l=(0,ZaH q (Zbh s q) N) by rw [HSP2.out,if_neg (by simp),Int.toNat_natCast]);have hmk:=ZdU q (by omega);clear HSP2;go_upto_region 8 with fail
     clear hmk;obtain⟨w3,hW3⟩:∃ w3,w2.alloc (.cells (Zam q).toArray 23)=w3:=⟨_,rfl⟩;obtain⟨gP,hgP⟩:∃ gP,w2.heap.size=gP:=⟨_,rfl⟩;have hb3:Below w2.heap.size w2 w3:=(by rw [←hW3];exact(Below.refl _ _).alloc nR _);have PB:=hI (show w3.heap[gP]?=some (.cells (Zam q).toArray 23 (0,0)) by rw [←hW3,←hgP];exact heap_alloc_new w2 _);have hz3:gP+1≤w3.heap.size∧w3.heap.size≤gP+1:=(by rw [←hW3,←hgP];simp);rw [hW3]
     try rw [hgP]
     have x0:=c9J hb3 z0;have x1:=c9J hb3 z1;have HB3:=hI (HB2.out.trans (hb3.mono (by omega)));have HN3:=hI (HN.out.keep (Same.of_below hb3 (fun b hb=>hb.2)));have HG0:=hI (Grid.start (w:=w3) (B0:=w3.heap.size) (n:=1) (T:=q) (G:=fun _=>gP) (TT:=23) (e:=44) (size:=3) (S0:=New w1 w2) (fun i _=>PB.out) (fun i i' h1 h2 _=>by omega) (fun i _=>by omega) (fun b hb=>⟨by have:=hb.2;omega,fun i _=>by have:=hb.2;omega⟩) nR);have HNW:=hI (show ∀ b,New w1 w2 b→b<gP∧w.heap.size<b from fun b hb=>⟨by have:=hb.2;omega,by have:=hb.1;omega⟩);have hgw:w.heap.size<gP:=(by omega);clear hW3 hb3 z0 z1 HN PB hgP;have hnN:N.length≤cN:=HCN.out
     go_wp2_with fail
     go_loopw [34] (fun i wr=>∃ (k:Nat) (V:Nat→Nat→Value),k≤N.length∧i=.int .i64 k∧Fr (fun b=>b=gP) w3 wr∧Grid wr w3.heap.size 44 23 3 (New w1 w2) 1 q (fun _=>gP) V V (fun _ j=>((N.take k).filter fun c=>Zbh s q c == j).map Zay)) (fun i _=>N.length - (intOf i).toNat)
     case atStart=>exact⟨0,_,Nat.zero_le _,rfl,Fr.refl _ _,HG0.out.congr (fun i j _ _=>by simp)⟩
     case round =>
      clear HG0;obtain⟨k,V,hkk,rfl,hfr,hgr⟩:=hrel;have HFR:=hI hfr;have HGR:=hI hgr;have hsz:=hfr.size;clear hfr hgr
      by_cases hlt:k<N.length
      · have hdk:decide (k<N.length)=true:=(by simp [hlt]);have hk0:(0:Int)≤(k:Int):=(by omega);have hki:(k:Int)<N.length:=(by omega);obtain⟨b1,o1,rfl,hb1,f0,A1,c1,A2,c2,f1,f1c,f1r,f2,f2c,f2r⟩:=(HN3.out.keep (HFR.out.same (fun b hb=>⟨by have:=HNW.out b hb;omega,by have:=HNW.out b hb;omega⟩))).at_ hlt;have hlb:b1<wr.heap.size:=(by have:=HNW.out b1 hb1;omega);have HCG:=hI (HGE.out (N.getD k chg0) (by rw [show N.getD k chg0=N[k] by simp [List.getD,hlt]];exact List.getElem_mem hlt));have HTK:=hI (show N.take (k+1)=N.take k++[N.getD k chg0] by rw [List.take_succ_eq_append_getElem hlt];simp [List.getD,hlt]);have HTL:=hI (show ∀ j,((N.take k).filter fun c=>Zbh s q c == j).length≤1000 from fun j=>by have h1:=List.length_filter_le (fun c=>Zbh s q c == j) (N.take k);rw [List.length_take] at h1;omega);have HF1:=hI f1r;have HF2:=hI f2r;have hl1:=f1r.len;have hl2:=f2r.len;generalize N.getD k chg0=x at f0 f1 f1c f2 f2c HF1 HF2 HCG HTK hl1 hl2;obtain⟨xt,xo,xn⟩:=x;obtain⟨t9,ht9,htl⟩:=HCG.out.tab;simp only at f0 f1 f1c f2 f2c HF1 HF2 hl1 hl2 ht9;subst ht9;have hkl:=Zcv HSC.out htl;have h01:0<xo.length∨0<xn.length:=HCG.out.some_;have HKV:=hI HCG.out.key;have HHL:=hI (Zgh (s:=s) (n:=(q:Int)) (c:=⟨t9,xo,xn⟩) hn1);have HF1C:=hI f1c;have HF2C:=hI f2c;clear f1r f2r f1c f2c;go_upto_region 11 with fail
        obtain⟨W1,hW1⟩:∃ W1,wr.alloc (.cells #[.int .i64 t9,.slice A1 xo.length c1,.slice A2 xn.length c2] 44)=W1:=⟨_,rfl⟩;have X0:=hI (show W1.heap[wr.heap.size]?=some (.cells #[.int .i64 t9,.slice A1 xo.length c1,.slice A2 xn.length c2] 44 (0,0)) by rw [←hW1];exact heap_alloc_new wr _);have hbW:Below wr.heap.size wr W1:=(by rw [←hW1];exact(Below.refl _ _).alloc nR _);have hz1:W1.heap.size≤wr.heap.size+1∧wr.heap.size+1≤W1.heap.size:=(by rw [←hW1];simp);have HBX:=hI hbW;have HFW:=hI (show Below w.heap.size w W1 from HB3.out.trans ((HFR.out.below (n:=w.heap.size) (by omega) (fun b hb=>by omega)).trans (hbW.mono (by omega))));have hs0:=(hbW.cell (p:=⟨w.heap.size,0,none⟩) (by show w.heap.size<wr.heap.size;omega)).trans ((HFR.out.cell (b:=w.heap.size) (o:=0) (by omega) (by omega)).trans x0);have hs1:=(hbW.cell (p:=⟨w.heap.size,1,none⟩) (by show w.heap.size<wr.heap.size;omega)).trans ((HFR.out.cell (b:=w.heap.size) (o:=1) (by omega) (by omega)).trans x1);have a0:W1.cell? ⟨wr.heap.size,0,none⟩=some (.int .i64 t9):=Zaa X0.out 0 _ rfl;have a1:W1.cell? ⟨wr.heap.size,1,none⟩=some (.slice A1 xo.length c1):=Zaa X0.out 1 _ rfl;have a2:W1.cell? ⟨wr.heap.size,2,none⟩=some (.slice A2 xn.length c2):=Zaa X0.out 2 _ rfl;have HR1:=hI (HF1.out.keep (Same.of_below hbW (fun b hb=>by have:=HNW.out b hb;omega)));have HR2:=hI (HF2.out.keep (Same.of_below hbW (fun b hb=>by have:=HNW.out b hb;omega)));have hzw:wr.heap.size<W1.heap.size:=(by omega);have hzs:w.heap.size<W1.heap.size:=(by omega);rw [hW1];clear hW1 hbW f0 f1 f2 HF1 HF2 hdk X0;have hco:xo.length≤c1:=HF1C.out;have hcn:xn.length≤c2:=HF2C.out;refine tS (fun w'=>w'.cell? ⟨wr.heap.size,0,none⟩=some (.int .i64 t9)∧w'.cell? ⟨wr.heap.size,1,none⟩=some (.slice A1 xo.length c1)∧w'.cell? ⟨wr.heap.size,2,none⟩=some (.slice A2 xn.length c2)∧w'.cell? ⟨w.heap.size,0,none⟩=some (.int .i64 s.version)∧w'.cell? ⟨w.heap.size,1,none⟩=some (.slice A0 s.tabs.length c0')) 8 8 fun Q' HQ HP=>?_;refine tX 0 38 1 39 2 40 3 41 (bA 8 15) HP.out ⟨a0,a1,a2,hs0,hs1⟩ ?_;refine tJ 4 42 (bA 8 31) HP.out ⟨a0,a1,a2,hs0,hs1⟩ ?_;refine tQ 5 (some 43) (bA 8 63) fun K HK=>?_;go_simp;refine(Zec A0 c0' s t9 xo xn A1 c1 A2 c2 (fun b=>S b∨New w1 w2 b) W1.drew (((HS.out.keep (Same.of_below HFW.out hS)).keep (w':=W1.drew) (fun _ _=>rfl)).more (fun b hb=>Or.inl hb)) (((HR1.out).keep (w':=W1.drew) (fun _ _=>rfl)).more (fun b hb=>Or.inr hb)) hco (((HR2.out).keep (w':=W1.drew) (fun _ _=>rfl)).more (fun b hb=>Or.inr hb)) hcn (fun b hb=>by show b<W1.heap.size;rcases hb with hb | hb;{ have:=hS b hb;omega };have:=HNW.out b hb;omega) htl hkl.2.1 h01).mono ?_;rintro e w4 ⟨A4,c4,rfl,h4,hb4⟩;have hv1:Below W1.heap.size W1 w4:=(Below.refl _ W1).drew.trans hb4;have HK4:=hI (show RowS w4 (fun b=>b<w4.heap.size) A4 (ZbH s ⟨t9,xo,xn⟩) from (ZaI (ZbJ HKV.out.1 HKV.out.2) h4).more (fun b hb=>hb.2));have hv1s:=hv1.size;have q0:=c9Q hv1 hzw a0;have q1:=c9Q hv1 hzw a1;have q2:=c9Q hv1 hzw a2;have q3:=c9Q hv1 hzs hs0;have q4:=c9Q hv1 hzs hs1;clear hb4 h4;refine HK.out _ _ (fun _=>⟨q0,q1,q2,q3,q4⟩) ?_;clear HK K
        try simp only [Act.put,psA,psB,psC]
        refine tQ 6 (some 44) (bA 8 127) fun K HK=>?_;go_simp;refine(Zdi (q:Int) t9 A4 c4 (ZbH s ⟨t9,xo,xn⟩) (fun b=>b<w4.heap.size) w4 hn1 hn4 HK4.out (fun b hb=>hb) HKV.out.1 HKV.out.2).mono ?_;rintro e w5 ⟨rfl,hb5⟩;have hv2:Below W1.heap.size W1 w5:=hv1.trans (hb5.mono hv1s);have HRB:=hI hv2;have p0:=c9Q hv2 hzw a0;have p1:=c9Q hv2 hzw a1;have p2:=c9Q hv2 hzw a2;have p3:=c9Q hv2 hzs hs0;have p4:=c9Q hv2 hzs hs1;clear hb5 HK4 q0 q1 q2 q3 q4 hv1s;refine HK.out _ _ (fun _=>⟨p0,p1,p2,p3,p4⟩) ?_;clear HK K
        try simp only [Act.put,psA,psB,psC]
        refine tJ 7 14 (bA 8 255) HP.out ⟨p0,p1,p2,p3,p4⟩ ?_;refine tE HQ ?_;clear HQ HP Q';have HGX:=hI (HGR.out.below (HBX.out.trans (hv2.mono (by omega))));have HB5:=hI (HFW.out.trans (hv2.mono (by omega)));have HFX:=hI (HFR.out.trans (Fr.of_below (HBX.out.trans (hv2.mono (by omega)))) (X:=fun b=>b=gP) (Y:=fun _=>False) (fun b hb h=>h.elim));have hw5:=hv2.size;clear hv1 hv2 p3 p4 HBX HFW hs0 hs1 a0 a1 a2
        go_wp2_with fail
        obtain⟨hj1,hj2'⟩:=HHL.out;rw [hj2'];rw [Int.toNat_natCast] at hj1;obtain⟨j,hj⟩:∃ j,Zbh s q ⟨t9,xo,xn⟩=j:=⟨_,rfl⟩;have HJ:=hI hj;rw [hj] at hj1 ⊢;have hjq:(j:Int)<(q:Int):=(by omega);have hj0:(0:Int)≤(j:Int):=(by omega);clear hj hj2';obtain⟨AV,cV,hAV⟩:=HGX.out.form (i:=0) (j:=j) (by omega) hj1;obtain⟨g2,g3⟩:=HGX.out.cell (i:=0) (j:=j) (by omega) hj1;rw [hAV] at g2;have HOW:=hI (show (V 0 j).ownBlock≠some wr.heap.size from fun e=>by have:=((HGR.out.own 0 j (by omega) hj1).lt e).2;omega);have HAV:=hI hAV;clear hAV;obtain⟨m,hm⟩:∃ m,(((N.take k).filter fun c=>Zbh s q c == j).map Zay).length=m:=⟨_,rfl⟩;have hmL:m≤1000:=(by rw [←hm,List.length_map];exact HTL.out j);rw [hm] at g2;have HM:=hI hm;clear hm;have hgl:gP<w5.heap.size:=(by omega);have hxl:wr.heap.size<w5.heap.size:=(by omega);have HOG:=hI (show ∀ b,(V 0 j).ownBlock=some b→w3.heap.size≤b from fun b e=>((HGR.out.own 0 j (by omega) hj1).lt e).1);have HVC:=hI (show ∀ wd,Below w5.heap.size w5 wd→Dat.Vals wd (Oth (New w1 w2) wd w3.heap.size 1 q V) (Zay ⟨t9,xo,xn⟩) [.int .i64 t9,.slice A1 xo.length c1,.slice A2 xn.length c2] from fun wd hwd=>ZdR ⟨hco,(((HR1.out.keep (Same.of_below HRB.out (fun b hb=>by have:=HNW.out b hb;omega))).keep (Same.of_below hwd (fun b hb=>by have:=HNW.out b hb;omega))).more (fun b hb=>.inl hb))⟩ ⟨hcn,(((HR2.out.keep (Same.of_below HRB.out (fun b hb=>by have:=HNW.out b hb;omega))).keep (Same.of_below hwd (fun b hb=>by have:=HNW.out b hb;omega))).more (fun b hb=>.inl hb))⟩);refine tS (fun w'=>w'.frozen? ⟨gP,j,none⟩=false∧w'.cell? ⟨gP,j,none⟩=some (.slice AV m cV)∧w'.cell? ⟨wr.heap.size,0,none⟩=some (.int .i64 t9)∧w'.cell? ⟨wr.heap.size,1,none⟩=some (.slice A1 xo.length c1)∧w'.cell? ⟨wr.heap.size,2,none⟩=some (.slice A2 xn.length c2)) 10 11 fun Q' HQ HP=>?_;obtain⟨wd,hwd⟩:∃ wd,w5.drew=wd:=⟨_,rfl⟩;have HBD:=hI (show Below w5.heap.size w5 wd by rw [←hwd];exact(Below.refl _ w5).drew);have hwz:wd.heap.size≤w5.heap.size∧w5.heap.size≤wd.heap.size:=(by rw [←hwd];exact⟨Nat.le_refl _,Nat.le_refl _⟩);have HGX:=hI (HGX.out.below HBD.out);have HFX:=hI (HFX.out.trans (Fr.of_below HBD.out) (Y:=fun _=>False) (fun b hb h=>h.elim));have HVC:=hI (HVC.out wd HBD.out);have g2:=c9Q HBD.out hgl g2;have g3:=(HBD.out.frozen (p:=⟨gP,j,none⟩) hgl).trans g3;have u0:=c9Q HBD.out hxl p0;have u1:=c9Q HBD.out hxl p1;have u2:=c9Q HBD.out hxl p2;have hgl:gP<wd.heap.size:=(by omega);have hxl:wr.heap.size<wd.heap.size:=(by omega);rw [hwd];clear hwd p0 p1 p2;refine tX 0 45 1 46 2 47 3 48 (bA 11 15) HP.out ⟨g3,g2,u0,u1,u2⟩ ?_;refine tW 4 49 5 50 (bA 11 63) HP.out ⟨g3,g2,u0,u1,u2⟩ ?_;refine tJ 6 51 (bA 11 127) HP.out ⟨g3,g2,u0,u1,u2⟩ ?_;refine tQ 7 (some 52) (bA 11 255) fun K HK=>?_;go_simp;have l3:(wd.alloc (.cells #[.int .i64 t9,.slice A1 xo.length c1,.slice A2 xn.length c2] 44)).frozen? ⟨gP,j,none⟩=_:=(Zby hgl).trans g3;have l2:(wd.alloc (.cells #[.int .i64 t9,.slice A1 xo.length c1,.slice A2 xn.length c2] 44)).cell? ⟨gP,j,none⟩=_:=(Zah hgl).trans g2;have m0:(wd.alloc (.cells #[.int .i64 t9,.slice A1 xo.length c1,.slice A2 xn.length c2] 44)).cell? ⟨wr.heap.size,0,none⟩=_:=(Zah hxl).trans u0;have m1:(wd.alloc (.cells #[.int .i64 t9,.slice A1 xo.length c1,.slice A2 xn.length c2] 44)).cell? ⟨wr.heap.size,1,none⟩=_:=(Zah hxl).trans u1;have m2:(wd.alloc (.cells #[.int .i64 t9,.slice A1 xo.length c1,.slice A2 xn.length c2] 44)).cell? ⟨wr.heap.size,2,none⟩=_:=(Zah hxl).trans u2;refine HK.out _ _ (fun _=>⟨l3,l2,m0,m1,m2⟩) ?_;clear HK K
        try simp only [Act.put,psA,psB,psC]
        refine anyT_one (i:=8) (o:=⟨some 53,_,_,_,_,_⟩) (L':=(bA 11 511)) rfl (by kernel_rfl) (by kernel_rfl) (fun K hK=>?_);refine ZbS (by rfl) (.tmp 50) (.tmp 52) 23 (by rfl) i0 _ 56 Tryz.underlying23 hi hj0' hj1' hj2'' rfl (by decide) wd HGX.out (i:=0) (j:=j) (by omega) hj1 (by rw [HAV.out,HM.out];rfl) (Zay ⟨t9,xo,xn⟩) #[.int .i64 t9,.slice A1 xo.length c1,.slice A2 xn.length c2] HVC.out (Zcr _) (Zbl _) 1 (by rfl) (by rw [HM.out];omega) (by rw [HM.out];omega) ?_;rw [HM.out];intro g7 c7 w7 hg7 hr7;have HG7:=hI hg7;have HR7:=hI hr7;have n2:=(hg7.cell (i:=0) (j:=j) (by omega) hj1).1;rw [HAV.out,HM.out] at n2;have n3:=(hg7.cell (i:=0) (j:=j) (by omega) hj1).2;have n40:=(hr7.cell_far ⟨wr.heap.size,0,none⟩ hxl (fun e=>HOW.out e.symm)).trans u0;have n41:=(hr7.cell_far ⟨wr.heap.size,1,none⟩ hxl (fun e=>HOW.out e.symm)).trans u1;have n42:=(hr7.cell_far ⟨wr.heap.size,2,none⟩ hxl (fun e=>HOW.out e.symm)).trans u2;clear hg7 hr7;refine hK _ _ (fun _=>⟨n3,n2,n40,n41,n42⟩) ?_;clear hK K
        try simp only [Act.put,psA,psB,psC]
        refine tJ 9 54 (bA 11 1023) HP.out ⟨n3,n2,n40,n41,n42⟩ ?_;refine tQ 10 none (bA 11 2047) fun K HK=>?_;go_simp;refine HK.out _ _ (fun h=>absurd rfl h) ?_;clear HK K;refine tE HQ ?_;clear HQ HP Q';have HGN:=hI (HG7.out.store (i:=0) (j:=j) (by omega) hj1 (.slice (some ⟨g7,0,none⟩) (m+1) c7));have HFN:=hI (show Fr (fun b=>b=gP) w3 (w7.setCell ⟨gP,j,none⟩ (.slice (some ⟨g7,0,none⟩) (m+1) c7)) from (HFX.out.trans (Y:=fun b=>w3.heap.size≤b) (Fr.of_grown HR7.out (fun b hb e=>HOG.out b e.symm)) (fun b hb h=>absurd hb (by omega))).setCell _ (fun _=>rfl));clear HGX HFX HG7 HR7 HAV g2 g3
        go_wp2_with fail
        go_roundw
        case rel =>
         refine⟨k+1,upd V 0 j (.slice (some ⟨g7,0,none⟩) (m+1) c7),by omega,by go_num,HFN.out,HGN.out.congr (fun a c ha hc=>?_)⟩;obtain rfl:a=0:=(by omega);rw [HTK.out,filter_snoc,List.map_append,HJ.out]
         by_cases hcj:j=c
         · subst hcj;rw [if_pos rfl,ZbA];rfl
         · rw [if_neg hcj,Zcm (by omega)];simp
        case measure=>(simp [intOf];omega)
      · have hdk:decide (k<N.length)=false:=(by simp;omega);have HTK:=hI (show N.take k=N from List.take_of_length_le (by omega))
        have HEND:=hI (show SplP (ZcX s q l) w (.returned (.tuple #[.slice (some ⟨gP,0,none⟩) q q,.int .i64 0])) wr by
         rw [HSP3.out]
         obtain⟨vs,hv1,hv2⟩:=HGR.out.row (i:=0) (by omega) (fun j _=>by rw [HTK.out,Zae (n:=56) (fun _=>rfl)];have h9:=List.length_filter_le (fun c=>Zbh s q c == j) N;omega) (S':=New w wr) (fun b hb=>by
          rcases hb with hb | hb
          · have:=HNW.out b hb;exact⟨by omega,by omega⟩
          · exact⟨by omega,hb.2⟩)
         have hle:(List.range q).map (fun j=>Dat.slice (((N.take k).filter fun c=>Zbh s q c == j).map Zay))=(ZaH q (Zbh s q) N).map ZaX:=by
          unfold ZaH ZaX;rw [List.map_map,HTK.out];rfl
         rw [hle] at hv2;refine⟨some ⟨gP,0,none⟩,q,by rw [ZaC],by rw [ZaC];exact Nat.le_refl _,Sl.of_vals (by rw [Zae (n:=24) (fun _=>rfl),ZaC];omega) hv2 (fun _=>⟨gP,0,rfl,⟨by omega,by omega⟩,fun j u hu=>?_⟩),HB3.out.trans (HFR.out.below (n:=w.heap.size) (by omega) (fun b hb=>by omega))⟩;exact Zaa hv1 j u hu)
        go_wp2_with fail
        exact bodyPost_ret (v:=.tuple #[.slice (some ⟨gP,0,none⟩) q q,.int .i64 0]) (by simp [results,Tryz.results32,go_sem]) rfl HEND.out
   · have hd0:(re != 0)=true:=(by simp [hr]);have HF:=hI (show ZcX s n l=(re,[]) by rw [HSP2.out,if_pos hr])
     go_wp2_with fail
     exact bodyPost_ret (v:=.tuple #[.slice none 0 0,.int .i64 re]) (by simp [results,Tryz.results32,go_sem]) rfl (SplP.err HF.out HB2.out)
 · have hd0:(er != 0)=true:=(by simp [he]);have HF:=hI (show ZcX s n l=(er,[]) by rw [HSP.out,if_pos he])
   go_wp2_with fail
   exact bodyPost_ret (v:=.tuple #[.slice none 0 0,.int .i64 er]) (by simp [results,Tryz.results32,go_sem]) rfl (SplP.err HF.out HB1.out)
theorem lessR_any (A B:Option Addr) (ca cb:Nat) (a b:Row) (S:Nat→Prop) (w:World) (ha:RowS w S A a) (hb:RowS w S B b) (hS:∀ b,S b→b<w.heap.size) :
  Calls Tryz.prog 112 #[.slice A a.length ca,.slice B b.length cb] w (ZaL (decide (cmpR a b<0)) w):=by
 have HA:=hI ha;have HB:=hI hb;have hal:=ha.len;have hbl:=hb.len;clear ha hb;obtain⟨cv,hcv⟩:∃ cv,cmpR a b=cv:=⟨_,rfl⟩;have HCV:=hI hcv;rw [hcv];clear hcv;go_enter Tryz.func112,Tryz.ntmps112
 go_wp2_with fail
 refine(Zbm A B ca cb a b S w HA.out HB.out hS).mono ?_;rw [HCV.out];rintro e w1 ⟨rfl,hb1⟩;have HB1:=hI hb1;clear hb1
 go_wp2_with fail
 go_ret;exact⟨rfl,HB1.out⟩
def Zfa (n:Nat):List Value:=List.replicate n (.int .i64 0)
theorem run_make_intR (n:Nat) (hn:n≤1000) (w:World) :
  (Instr.makeSlice 77 (.int .i64 (n:Int)) (.int .i64 (n:Int))).run Tryz.prog w=.ok (.slice (some ⟨w.heap.size,0,none⟩) n n) (w.alloc (.cells (Zfa n).toArray 3)):=by
 obtain⟨i0,hi,hz0,hz1,hz2⟩:=info_parts info3;have hr:=run_make (P:=Tryz.prog) w 77 3 i0 _ Tryz.underlying77 hi hz0 .i64 .i64 n n (by omega) (by omega) (by rw [hz2];omega) (by omega);rw [hr,hz1];simp only [Int.toNat_natCast]
 congr 3
 apply Array.ext
 · simp [size_madeCells,Zfa]
 · intro i h1 h2;simp [madeCells,Zfa,Value.cells,Nat.mod_one]
def lenVR:Value→Nat
 | .slice _ n _=>n
 | _=>0
def atVR (cl:Row→Nat) (T:List Row) (n k:Nat):List Value:=(List.range n).map fun i=>.int .i64 (posn cl T k i:Int)
theorem Zhf {cl:Row→Nat} {T:List Row} {n k i:Nat} (h:i<n):(atVR cl T n k)[i]?=some (.int .i64 (posn cl T k i:Int)):=by simp [atVR,h]
theorem atVR_set {cl:Row→Nat} {T:List Row} {n k c:Nat} (hk:k<T.length) (hc:c=cl T[k]) (hn:c<n):(atVR cl T n k).set c (.int .i64 ((posn cl T k c:Int)+1))=atVR cl T n (k+1):=by
 apply List.ext_getElem
 · simp [atVR]
 · intro i h1 h2;have hi:i<n:=(by simpa [atVR] using h2);rw [List.getElem_set];simp only [atVR,List.getElem_map,List.getElem_range];rw [ZgD hk]
   by_cases e:c=i
   · subst e;rw [if_pos rfl,if_pos hc.symm];simp
   · rw [if_neg e,if_neg (fun e2=>e (hc.trans e2))];simp
def BestVR (cl:Row→Nat) (T:List Row) (k j:Nat) (b:Value):Prop:=(b=.int .i64 (-1)∧∀ i,i<j→rest cl T k i=[])∨∃ (c:Nat) (y:Row) (r:List Row),b=.int .i64 (c:Int)∧Best cmpR cl T k j c y r
theorem mergeR_any (AL:Option Addr) (cL n:Nat) (T:List Row) (cl:Row→Nat) (S:Nat→Prop) (w:World) (hL:Sl w S AL ((ZaH n cl T).map Zaw)) (hS:∀ b,S b→b<w.heap.size) (hn:n≤4) (hT:T.Pairwise (fun a b=>cmpR a b<0)) (hcl:∀ x ∈ T,cl x<n) (hlen:T.length≤1000) :
  Calls Tryz.prog 111 #[.slice AL n cL,.func (.func 112) #[] #[]] w (fun e w'=>∃ A c,e=.returned (.slice A T.length c)∧T.length≤c∧RowsS w' (fun b=>S b∨New w w' b) A T∧Below w.heap.size w w'):=by
 have HL:=hI hL;have HT:=hI hT;have HCL:=hI hcl;clear hL hT hcl;obtain⟨i0,hi,hj0,hj1,hj2⟩:=info_parts infoR;have hmk:=run_make_intR n (by omega);go_enter Tryz.func111,Tryz.ntmps111;go_upto_region 2 with fail
 clear hmk;obtain⟨w0,hw0⟩:∃ w0,w.alloc (.cells (Zfa n).toArray 3)=w0:=⟨_,rfl⟩;obtain⟨gA,hgA⟩:∃ gA,w.heap.size=gA:=⟨_,rfl⟩;have hb0:Below w.heap.size w w0:=(by rw [←hw0];exact(Below.refl _ _).alloc nR _)
 have AB:=hI (show w0.heap[gA]?=some (.cells (atVR cl T n 0).toArray 3 (0,0)) by
  have e:atVR cl T n 0=Zfa n:=by
   apply List.ext_getElem
   · simp [atVR,Zfa]
   · intro i h1 h2;simp [atVR,Zfa,posn]
  rw [e,←hw0,←hgA];exact heap_alloc_new w _)
 have hz0:gA+1≤w0.heap.size∧w0.heap.size≤gA+1:=(by rw [←hw0,←hgA];simp);have HB0:=hI hb0;have hwg:w.heap.size≤gA∧gA≤w.heap.size:=(by omega);rw [hw0]
 try rw [hgA]
 clear hw0 hgA hb0;have HM0:=hI (Mk.start (w:=w0) (base:=w0.heap.size) (S0:=S) (fun b hb=>by have:=hS b hb;omega) nR 42 1)
 go_wp2_with fail
 go_loopw [6] (fun v wr=>∃ (k:Nat) (A:Option Addr) (c:Nat),k≤T.length∧v=.slice A k c∧Fr (fun b=>b=gA) w0 wr∧wr.heap[gA]?=some (.cells (atVR cl T n k).toArray 3 (0,0))∧Mk wr w0.heap.size S 42 1 (.slice A k c) ((T.take k).map Zax)) (fun v _=>T.length+1 - lenVR v)
 case atStart=>exact⟨0,none,0,Nat.zero_le _,rfl,Fr.refl _ _,AB.out,by rw [List.take_zero];exact HM0.out⟩
 case round =>
  clear HM0 AB;obtain⟨k,A,c,hk,rfl,hfr,hat,hmk⟩:=hrel;have HFR:=hI hfr;have HAT:=hI hat;have HM:=hI hmk;have hsz:=hfr.size;clear hfr hat hmk
  go_wp2_with fail
  obtain⟨wo,rfl⟩:∃ wo:World,wo=wr:=⟨_,rfl⟩
  go_loopw [7,15] (fun b i wr=>∃ j:Nat,j≤n∧i=.int .i64 j∧BestVR cl T k j b∧Below wo.heap.size wo wr) (fun _ i _=>n - (intOf i).toNat)
  case atStart=>exact⟨0,Nat.zero_le _,rfl,.inl ⟨rfl,fun i h=>absurd h (by omega)⟩,Below.refl _ _⟩
  case round =>
   obtain⟨j,hj,rfl,hbv,hbel⟩:=hrel;have HBL:=hI hbel;have hsz2:=hbel.size;clear hbel;have HSM:=hI (show Same S w wr from fun b hb=>(HBL.out.block b (by have:=hS b hb;omega)).trans ((HFR.out.block b (by have:=hS b hb;omega) (by have:=hS b hb;omega)).trans (HB0.out.block b (hS b hb))));have HAW:=hI ((HBL.out.block gA (Zac HAT.out)).trans HAT.out);have hgl:=Zac HAW.out
   by_cases hjn:j<n
   · have hdj:decide (j<n)=true:=(by simp [hjn]);have hj0':(0:Int)≤(j:Int):=(by omega);have hji:(j:Int)<(n:Int):=(by omega);have hjs:j<(ZaH n cl T).length:=(by rw [ZaC];exact hjn);obtain⟨bl,ol,rfl,hbl,AJ,cJ,l0,l1,l2⟩:=StS.at_ (show StS wr S AL (ZaH n cl T) from Sl.keep HL.out HSM.out) hjs;rw [Zbb hjn] at l0 l1 l2;have HLJ:=hI l2;have hbll:bl<wr.heap.size:=(by have:=hS bl hbl;omega)
     have p0:wr.cell? ⟨gA,j,none⟩=some (.int .i64 (posn cl T k j:Int)):=by
      have h9:=Zaa HAW.out j _ (show (atVR cl T n k).toArray.toList[j]?=_ from Zhf hjn);rwa [Nat.zero_add] at h9
     clear l1 l2;have hlenJ:(T.filter fun x=>cl x == j).length≤1000:=(by have:=List.length_filter_le (fun x=>cl x == j) T;omega);have hpl:=posn_le (cl:=cl) (T:=T) k j;have HRN:=hI (fun (h:rest cl T k j=[])=>Zht h);have HRC:=hI (fun (z:Row) (q:List Row) (h:rest cl T k j=z :: q)=>Zcg h);obtain⟨pj,hpj⟩:∃ pj,posn cl T k j=pj:=⟨_,rfl⟩;obtain⟨LJ,hLJ⟩:∃ LJ,T.filter (fun x=>cl x == j)=LJ:=⟨_,rfl⟩;rw [hpj] at p0 hpl HRN HRC;rw [hLJ] at l0 HLJ hlenJ hpl HRN HRC;clear hpj hLJ;go_upto_region 7 with fail
     rcases hr:rest cl T k j with _ | ⟨z,q⟩
     · have hnl:=HRN.out hr;have hdl:decide ((pj:Int)<(LJ.length:Int))=false:=decide_eq_false (by omega);have hdl2:decide (pj<LJ.length)=false:=decide_eq_false hnl;have HR:=hI hr;have HBV:=hI hbv;clear hr hbv;refine tS (fun w'=>w'.cell? ⟨gA,j,none⟩=some (.int .i64 (pj:Int))) 32 32 fun Q' HQ HP=>?_;refine tX 0 20 1 21 2 22 3 23 (bA 32 15) HP.out p0 ?_;refine tX 4 24 5 25 6 26 7 27 (bA 32 255) HP.out p0 ?_;refine tK 8 28 (bA 32 511) HP.out p0 ?_;refine tK 9 29 (bA 32 1023) HP.out p0 ?_;refine tK 10 30 (bA 32 2047) HP.out p0 ?_;refine tK 11 31 (bA 32 4095) HP.out p0 ?_;refine tK 12 32 (bA 32 8191) HP.out p0 ?_;refine tK 13 33 (bA 32 16383) HP.out p0 ?_;refine tK 14 34 (bA 32 32767) HP.out p0 ?_;refine tK 15 35 (bA 32 65535) HP.out p0 ?_;refine tK 16 36 (bA 32 131071) HP.out p0 ?_;refine tK 17 37 (bA 32 262143) HP.out p0 ?_;refine tK 18 38 (bA 32 524287) HP.out p0 ?_;refine tK 19 39 (bA 32 1048575) HP.out p0 ?_;refine tK 20 40 (bA 32 2097151) HP.out p0 ?_;refine tK 21 41 (bA 32 4194303) HP.out p0 ?_;refine tK 22 42 (bA 32 8388607) HP.out p0 ?_;refine tK 23 43 (bA 32 16777215) HP.out p0 ?_;refine tK 24 44 (bA 32 33554431) HP.out p0 ?_;refine tK 25 45 (bA 32 67108863) HP.out p0 ?_;refine tK 26 46 (bA 32 134217727) HP.out p0 ?_;refine tK 27 47 (bA 32 268435455) HP.out p0 ?_;refine tK 28 48 (bA 32 536870911) HP.out p0 ?_;refine tK 29 49 (bA 32 1073741823) HP.out p0 ?_;refine tK 30 50 (bA 32 2147483647) HP.out p0 ?_;refine tJ 31 51 (bA 32 4294967295) HP.out p0 ?_;refine tE HQ ?_;clear HQ HP Q';have HBW:=hI (show Below wo.heap.size wo wr.drew from HBL.out.drew)
       go_wp2_with fail
       go_roundw
       case rel =>
        refine⟨j+1,by omega,by go_num,?_,HBW.out⟩;rcases HBV.out with ⟨h1,h2⟩ | ⟨c',y,r,h1,h2⟩
        · refine .inl ⟨h1,fun i hi=>?_⟩;rcases Nat.lt_or_ge i j with h3 | h3
          · exact h2 i h3
          · obtain rfl:i=j:=(by omega);exact HR.out
        · exact .inr ⟨c',y,r,h1,h2.skip HR.out⟩
       case measure=>(simp [intOf];omega)
     · obtain⟨hpl2,hzg,hzm,hzc⟩:=HRC.out z q hr;have hdl:decide ((pj:Int)<(LJ.length:Int))=true:=decide_eq_true (by omega);have hdl2:decide (pj<LJ.length)=true:=decide_eq_true hpl2;have hpj0:(0:Int)≤(pj:Int):=(by omega);have hpji:(pj:Int)<(LJ.length:Int):=(by omega);have HR:=hI hr;have HZM:=hI (show z ∈ T from List.mem_of_mem_drop hzm);have hzd:LJ.getD pj []=z:=(by simp [List.getD,hzg]);clear hr hzg hzm hzc HRN HRC;rcases hbv with ⟨rfl,hno⟩ | ⟨c',y,r,rfl,hbest⟩
       · have HNO:=hI hno;clear hno hzd;refine tS (fun w'=>w'.cell? ⟨gA,j,none⟩=some (.int .i64 (pj:Int))) 32 32 fun Q' HQ HP=>?_;refine tX 0 20 1 21 2 22 3 23 (bA 32 15) HP.out p0 ?_;refine tX 4 24 5 25 6 26 7 27 (bA 32 255) HP.out p0 ?_;refine tW 8 28 9 29 (bA 32 1023) HP.out p0 ?_;refine tJ 10 30 (bA 32 2047) HP.out p0 ?_;refine tK 11 31 (bA 32 4095) HP.out p0 ?_;refine tK 12 32 (bA 32 8191) HP.out p0 ?_;refine tK 13 33 (bA 32 16383) HP.out p0 ?_;refine tK 14 34 (bA 32 32767) HP.out p0 ?_;refine tK 15 35 (bA 32 65535) HP.out p0 ?_;refine tK 16 36 (bA 32 131071) HP.out p0 ?_;refine tK 17 37 (bA 32 262143) HP.out p0 ?_;refine tK 18 38 (bA 32 524287) HP.out p0 ?_;refine tK 19 39 (bA 32 1048575) HP.out p0 ?_;refine tK 20 40 (bA 32 2097151) HP.out p0 ?_;refine tK 21 41 (bA 32 4194303) HP.out p0 ?_;refine tK 22 42 (bA 32 8388607) HP.out p0 ?_;refine tK 23 43 (bA 32 16777215) HP.out p0 ?_;refine tK 24 44 (bA 32 33554431) HP.out p0 ?_;refine tK 25 45 (bA 32 67108863) HP.out p0 ?_;refine tK 26 46 (bA 32 134217727) HP.out p0 ?_;refine tK 27 47 (bA 32 268435455) HP.out p0 ?_;refine tK 28 48 (bA 32 536870911) HP.out p0 ?_;refine tK 29 49 (bA 32 1073741823) HP.out p0 ?_;refine tW 30 50 31 51 (bA 32 4294967295) HP.out p0 ?_;refine tE HQ ?_;clear HQ HP Q';have HBW:=hI (show Below wo.heap.size wo wr.drew from HBL.out.drew)
         go_wp2_with fail
         go_roundw
         case rel=>exact⟨j+1,by omega,by go_num,.inr ⟨j,z,q,rfl,Best.first Zfe HNO.out HR.out⟩,HBW.out⟩
         case measure=>(simp [intOf];omega)
       · have HBE:=hI hbest;have hcj:=hbest.lt;obtain⟨hpy,hyg,hym,hyc⟩:=Zcg hbest.hd;have HYM:=hI (show y ∈ T from List.mem_of_mem_drop hym);have hcn:c'<n:=(by omega)
         have q0:wr.cell? ⟨gA,c',none⟩=some (.int .i64 (posn cl T k c':Int)):=by
          have h9:=Zaa HAW.out c' _ (show (atVR cl T n k).toArray.toList[c']?=_ from Zhf hcn);rwa [Nat.zero_add] at h9
         obtain⟨bl',ol',e9,_,AC,cC,m0,_,m2⟩:=StS.at_ (show StS wr S (some ⟨bl,ol,none⟩) (ZaH n cl T) from Sl.keep HL.out HSM.out) (k:=c') (by rw [ZaC];exact hcn);injection e9 with e9;injection e9 with e9a e9b;subst e9a e9b;rw [Zbb hcn] at m0 m2;have hlenC:(T.filter fun x=>cl x == c').length≤1000:=(by have:=List.length_filter_le (fun x=>cl x == c') T;omega);obtain⟨pc,hpc⟩:∃ pc,posn cl T k c'=pc:=⟨_,rfl⟩;obtain⟨LC,hLC⟩:∃ LC,T.filter (fun x=>cl x == c')=LC:=⟨_,rfl⟩;rw [hpc] at q0 hpy hyg;rw [hLC] at m0 m2 hlenC hpy hyg;have hyd:LC.getD pc []=y:=(by simp [List.getD,hyg]);have hpc0:(0:Int)≤(pc:Int):=(by omega);have hpci:(pc:Int)<(LC.length:Int):=(by omega);have hc0':(0:Int)≤(c':Int):=(by omega);have hcni:(c':Int)<(n:Int):=(by omega);have hneg:decide ((c':Int)<0)=false:=decide_eq_false (by omega);obtain⟨bz,oz,rfl,hbz,Z1,zc1,z0,z0c,z0r⟩:=RowsS.at_ HLJ.out hpl2;rw [hzd] at z0 z0c z0r;obtain⟨by_,oy,rfl,hby,Y1,yc1,y0,y0c,y0r⟩:=RowsS.at_ (show RowsS wr S AC LC from m2) hpy;rw [hyd] at y0 y0c y0r;have HVZ:=hI z0r;have HVY:=hI y0r;have hzl:=z0r.len;have hyl:=y0r.len;have hbzl:bz<wr.heap.size:=(by have:=hS bz hbz;omega);have hbyl:by_<wr.heap.size:=(by have:=hS by_ hby;omega);clear z0c z0r y0c y0r m2 hzd hyd;clear hpc hLC hyg hym hyc hbest;refine tS (fun w'=>w'.cell? ⟨gA,j,none⟩=some (.int .i64 (pj:Int))∧w'.cell? ⟨gA,c',none⟩=some (.int .i64 (pc:Int))∧w'.cell? ⟨bl,ol+c',none⟩=some (.slice (some ⟨by_,oy,none⟩) LC.length cC)∧w'.cell? ⟨bz,oz+pj,none⟩=some (.slice Z1 z.length zc1)∧w'.cell? ⟨by_,oy+pc,none⟩=some (.slice Y1 y.length yc1)) 32 32 fun Q' HQ HP=>?_;refine tX 0 20 1 21 2 22 3 23 (bA 32 15) HP.out ⟨p0,q0,m0,z0,y0⟩ ?_;refine tX 4 24 5 25 6 26 7 27 (bA 32 255) HP.out ⟨p0,q0,m0,z0,y0⟩ ?_;refine tX 8 28 9 29 10 30 11 31 (bA 32 4095) HP.out ⟨p0,q0,m0,z0,y0⟩ ?_;refine tX 12 32 13 33 14 34 15 35 (bA 32 65535) HP.out ⟨p0,q0,m0,z0,y0⟩ ?_;refine tX 16 36 17 37 18 38 19 39 (bA 32 1048575) HP.out ⟨p0,q0,m0,z0,y0⟩ ?_;refine tX 20 40 21 41 22 42 23 43 (bA 32 16777215) HP.out ⟨p0,q0,m0,z0,y0⟩ ?_;refine tX 24 44 25 45 26 46 27 47 (bA 32 268435455) HP.out ⟨p0,q0,m0,z0,y0⟩ ?_;refine tJ 28 48 (bA 32 536870911) HP.out ⟨p0,q0,m0,z0,y0⟩ ?_;refine tQ 29 (some 49) (bA 32 1073741823) fun K HK=>?_;go_simp;refine(lessR_any Z1 Y1 zc1 yc1 z y S wr.drew (HVZ.out.keep (w':=wr.drew) (fun _ _=>rfl)) (HVY.out.keep (w':=wr.drew) (fun _ _=>rfl)) (fun b hb=>by have:=hS b hb;show b<wr.heap.size;omega)).mono ?_;rintro e w5 ⟨rfl,hv1'⟩;have hv1:Below wr.heap.size wr w5:=(Below.refl _ wr).drew.trans hv1';have r0:=c9Q hv1 hgl p0;have r1:=c9Q hv1 hgl q0;have r2:=c9Q hv1 hbll m0;have r3:=c9Q hv1 hbzl z0;have r4:=c9Q hv1 hbyl y0;refine HK.out _ _ (fun _=>⟨r0,r1,r2,r3,r4⟩) ?_;clear HK K
         try simp only [Act.put,psA,psB,psC]
         refine tW 30 50 31 51 (bA 32 4294967295) HP.out ⟨r0,r1,r2,r3,r4⟩ ?_;refine tE HQ ?_;clear HQ HP Q';have HBW:=hI (HBL.out.trans (hv1.mono hsz2))
         by_cases hlt:cmpR z y<0
         · rw [decide_eq_true hlt];have HLT:=hI hlt;clear hlt hv1 hv1' r0 r1 r2 r3 r4 p0 q0 m0 z0 y0
           go_wp2_with fail
           go_roundw
           case rel=>exact⟨j+1,by omega,by go_num,.inr ⟨j,_,q,rfl,HBE.out.turn Zfe HR.out HLT.out⟩,HBW.out⟩
           case measure=>(simp [intOf];omega)
         · rw [decide_eq_false hlt];have HLT:=hI hlt;clear hlt hv1 hv1' r0 r1 r2 r3 r4 p0 q0 m0 z0 y0
           go_wp2_with fail
           go_roundw
           case rel=>exact⟨j+1,by omega,by go_num,.inr ⟨c',_,r,rfl,HBE.out.stay HR.out HLT.out⟩,HBW.out⟩
           case measure=>(simp [intOf];omega)
   · have hdj:decide (j<n)=false:=(by simp;omega);obtain rfl:j=n:=(by omega);rcases hbv with ⟨rfl,hno⟩ | ⟨c',y,r,rfl,hbest⟩
     · have HTK:=hI (Zhu HCL.out hno);have HKL:=hI (show k=T.length by have h9:=congrArg List.length HTK.out;rw [List.length_take] at h9;omega);have HME:=hI ((HM.out.below HBL.out).slice (by rw [HTK.out,Zae (n:=24) (fun _=>rfl)];omega));have HBF:=hI (show Below w.heap.size w wr from HB0.out.trans ((HFR.out.below (n:=w.heap.size) (by omega) (fun b hb=>by omega)).trans (HBL.out.mono (by omega))));clear hno
       go_wp2_with fail
       go_ret;refine⟨A,c,by rw [←HKL.out];rfl,by rw [←HKL.out];exact HME.out.2.1,?_,HBF.out⟩;have h9:=HME.out.2.2;rw [HTK.out] at h9;exact Sl.more h9 (fun b hb=>hb.imp id (fun hb=>⟨by omega,hb.2⟩))
     · obtain⟨hkT,hy,hc9⟩:=hbest.next Zfe HT.out HCL.out;obtain⟨hpy,hyg,hym,hyc⟩:=Zcg hbest.hd;have hcn:=hbest.lt;have HTS9:=hI (show T.take (k+1)=T.take k++[y] by rw [List.take_succ_eq_append_getElem hkT,hy]);have HCE:=hI hc9
       have q0:wr.cell? ⟨gA,c',none⟩=some (.int .i64 (posn cl T k c':Int)):=by
        have h9:=Zaa HAW.out c' _ (show (atVR cl T j k).toArray.toList[c']?=_ from Zhf hcn);rwa [Nat.zero_add] at h9
       obtain⟨bl,ol,rfl,hbl,AC,cC,m0,_,m2⟩:=StS.at_ (show StS wr S AL (ZaH j cl T) from Sl.keep HL.out HSM.out) (k:=c') (by rw [ZaC];exact hcn);rw [Zbb hcn] at m0 m2;have hbll:bl<wr.heap.size:=(by have:=hS bl hbl;omega);have hlenC:(T.filter fun x=>cl x == c').length≤1000:=(by have:=List.length_filter_le (fun x=>cl x == c') T;omega);have HPS:=hI (show (atVR cl T j k).set c' (.int .i64 ((posn cl T k c':Int)+1))=atVR cl T j (k+1) from atVR_set hkT hc9 hcn);obtain⟨pc,hpc⟩:∃ pc,posn cl T k c'=pc:=⟨_,rfl⟩;obtain⟨LC,hLC⟩:∃ LC,T.filter (fun x=>cl x == c')=LC:=⟨_,rfl⟩;rw [hpc] at q0 hpy hyg HPS;rw [hLC] at m0 m2 hlenC hpy hyg;have hyd:LC.getD pc []=y:=(by simp [List.getD,hyg]);have hpc0:(0:Int)≤(pc:Int):=(by omega);have hpci:(pc:Int)<(LC.length:Int):=(by omega);have hc0':(0:Int)≤(c':Int):=(by omega);have hcni:(c':Int)<(j:Int):=(by omega);have hneg:decide ((c':Int)<0)=false:=decide_eq_false (by omega);obtain⟨by_,oy,rfl,hby,Y1,yc1,y0,y0c,y0r⟩:=RowsS.at_ (show RowsS wr S AC LC from m2) hpy;rw [hyd] at y0 y0c y0r;have HVY:=hI y0r;have HYC:=hI y0c;have hyl:=y0r.len;have hbyl:by_<wr.heap.size:=(by have:=hS by_ hby;omega);clear y0c y0r m2 hyd;clear hpc hLC hyg hym hyc hbest hy hc9;have hk1000:k≤1000:=by omega
       go_wp2_with fail
       refine tS (fun w'=>w'.cell? ⟨gA,c',none⟩=some (.int .i64 (pc:Int))∧w'.cell? ⟨bl,ol+c',none⟩=some (.slice (some ⟨by_,oy,none⟩) LC.length cC)∧w'.cell? ⟨by_,oy+pc,none⟩=some (.slice Y1 y.length yc1)) 14 14 fun Q' HQ HP=>?_;obtain⟨wd,hwd⟩:∃ wd,wr.drew=wd:=⟨_,rfl⟩;have HBD:=hI (show Below wr.heap.size wr wd by rw [←hwd];exact(Below.refl _ wr).drew);have hwz:wr.heap.size≤wd.heap.size:=(by rw [←hwd];exact Nat.le_refl _);have HMD:=hI ((HM.out.below HBL.out).below HBD.out);have HVD:=hI (HVY.out.keep (fun b hb=>HBD.out.block b (by have:=hS b hb;omega)));have d0:=c9Q HBD.out hgl q0;have d1:=c9Q HBD.out hbll m0;have d2:=c9Q HBD.out hbyl y0;rw [hwd];clear hwd;refine tX 0 57 1 58 2 59 3 60 (bA 14 15) HP.out ⟨d0,d1,d2⟩ ?_;refine tX 4 61 5 62 6 63 7 64 (bA 14 255) HP.out ⟨d0,d1,d2⟩ ?_;refine tW 8 65 9 66 (bA 14 1023) HP.out ⟨d0,d1,d2⟩ ?_;refine tJ 10 67 (bA 14 2047) HP.out ⟨d0,d1,d2⟩ ?_;refine tQ 11 (some 68) (bA 14 4095) fun K HK=>?_;go_simp;have l0:(wd.alloc (.cells #[.slice Y1 y.length yc1] 42)).cell? ⟨gA,c',none⟩=_:=(Zah (by omega)).trans d0;have l1:(wd.alloc (.cells #[.slice Y1 y.length yc1] 42)).cell? ⟨bl,ol+c',none⟩=_:=(Zah (by omega)).trans d1;have l2:(wd.alloc (.cells #[.slice Y1 y.length yc1] 42)).cell? ⟨by_,oy+pc,none⟩=_:=(Zah (by omega)).trans d2;refine HK.out _ _ (fun _=>⟨l0,l1,l2⟩) ?_;clear HK K
       try simp only [Act.put,psA,psB,psC]
       refine anyT_one (i:=12) (o:=⟨some 69,_,_,_,_,_⟩) (L':=(bA 14 8191)) rfl (by kernel_rfl) (by kernel_rfl) (fun K hK=>?_);refine Zcu (by rfl) (.tmp 57) (.tmp 68) 73 (by rfl) w0.heap.size S 42 i0 _ 1 24 Tryz.underlying73 hi hj0 hj1 hj2 rfl (by decide) wd A k c _ HMD.out (by rfl) (Zax y) #[.slice Y1 y.length yc1] (Zbt HYC.out (HVD.out.more (fun b hb=>Or.inl hb))) (by simp [Zax,Dat.Plain]) rfl 1 (by rfl) (by omega) (by omega) ?_;intro g7 c7 w7 hm7 hb7 hl7;have HM7:=hI hm7;have HB7:=hI (show Below w0.heap.size wr w7 from (HBD.out.mono (by omega)).trans hb7);have HA7:=hI (show w7.heap[gA]?=some (.cells (atVR cl T j k).toArray 3 (0,0)) from (HB7.out.block gA (by omega)).trans HAW.out);have n0:w7.cell? ⟨gA,c',none⟩=some (.int .i64 (pc:Int)):=c9J HB7.out q0;have n1:=c9Q HB7.out (by show bl<w0.heap.size;have:=hS bl hbl;omega) m0;have n2:=c9Q HB7.out (by show by_<w0.heap.size;have:=hS by_ hby;omega) y0;clear hm7 hb7;refine hK _ _ (fun _=>⟨n0,n1,n2⟩) ?_;clear hK K
       try simp only [Act.put,psA,psB,psC]
       refine tJ 13 6 (bA 14 16383) HP.out ⟨n0,n1,n2⟩ ?_;refine tE HQ ?_;clear HQ HP Q';have HG9:=hI (show (w7.setCell ⟨gA,c',none⟩ (.int .i64 ((pc:Int)+1))).heap[gA]?=some (.cells (atVR cl T j (k+1)).toArray 3 (0,0)) by rw [←HPS.out];exact Zag HA7.out);have HMN:=hI (HM7.out.keep ((Fr.refl (fun b=>b=gA) w7).setCell (.int .i64 ((pc:Int)+1)) (g:=gA) (o:=c') (fun _=>rfl)) (fun b hb=>⟨by omega,fun h=>by have:=hS b h;omega⟩));have HFN:=hI (show Fr (fun b=>b=gA) w0 (w7.setCell ⟨gA,c',none⟩ (.int .i64 ((pc:Int)+1))) from ((HFR.out.trans (Fr.of_below HBL.out) (Y:=fun _=>False) (fun b hb h=>h.elim)).trans (Y:=fun b=>w0.heap.size≤b) ⟨HB7.out.os,HB7.out.tape,HB7.out.output,HB7.out.size,fun b hb hx=>HB7.out.block b (by omega)⟩ (fun b hb h=>absurd hb (by omega))).setCell _ (fun _=>rfl));have g2:w7.cell? ⟨gA,c',none⟩=some (.int .i64 (pc:Int)):=n0;have g3:w7.frozen? ⟨gA,c',none⟩=false:=(by simp [World.frozen?,HA7.out]);have hgl7:gA<w7.heap.size:=Zac HA7.out;clear HM7 HA7 d0 n0 d1 n1 d2 n2 q0 m0 y0
       go_wp2_with fail
       go_roundw
       case rel =>
        refine⟨k+1,some ⟨g7,0,none⟩,c7,by omega,by simp,HFN.out,HG9.out,?_⟩;rw [HTS9.out,List.map_append];exact HMN.out
       case measure=>(simp [lenVR];omega)
def Zda (st:St):Dat:=.slice (st.map Zaw)
theorem Zhm {w:World} {S:Nat→Prop} {A:Option Addr} {L:List St} (h:Sl w S A (L.map Zda)) {k:Nat} (hk:k<L.length):∃ b off,A=some ⟨b,off,none⟩∧S b∧∃ A' c,w.cell? ⟨b,off+k,none⟩=some (.slice A' (L.getD k []).length c)∧(L.getD k []).length≤c∧StS w S A' (L.getD k []):=by
 obtain⟨b,off,e,hb,h1⟩:=Sl.at_ (n:=1) (fun _=>rfl) [] h hk;rw [Nat.mul_one] at h1;simp only [Zda,Dat.Held,List.length_map] at h1;obtain⟨A',c,h2,h3,h4,h5⟩:=h1;exact⟨b,off,e,hb,A',c,h2,h3,⟨by simpa using h4,by simpa using h5⟩⟩
def LL (cl:Row→Nat) (T:List Row) (i j:Nat):Nat→Nat→List Dat:=fun _ q=>if q<i then (T.filter fun x=>cl x == q).map Zax else if q=i then ((T.filter fun x=>cl x == i).take j).map Zax else []
theorem LL_next {cl:Row→Nat} {T:List Row} {i j:Nat} (h:(T.filter fun x=>cl x == i).length≤j) (a q:Nat):LL cl T (i+1) 0 a q=LL cl T i j a q:=by
 unfold LL
 by_cases h1:q<i
 · rw [if_pos h1,if_pos (by omega)]
 · rw [if_neg h1]
   by_cases h2:q=i
   · subst h2;rw [if_pos rfl,if_pos (by omega),List.take_of_length_le h]
   · rw [if_neg h2,if_neg (by omega)]
     by_cases h3:q=i+1
     · rw [if_pos h3];simp
     · rw [if_neg h3]
theorem LL_step {cl:Row→Nat} {T:List Row} {i j:Nat} {row:Row} (h:(T.filter fun x=>cl x == i)[j]?=some row) (a q:Nat):LL cl T i (j+1) a q=upd (LL cl T i j) 0 i (LL cl T i j 0 i++[Zax row]) a q∨a≠0:=by
 by_cases ha:a=0
 · subst ha;left
   by_cases hq:q=i
   · subst hq;rw [ZbA];unfold LL;rw [if_neg (by omega),if_pos rfl,if_neg (by omega),if_pos rfl,List.take_add_one,h];simp
   · rw [Zcm (by omega)];unfold LL
     by_cases h1:q<i
     · rw [if_pos h1,if_pos h1]
     · rw [if_neg h1,if_neg hq,if_neg h1,if_neg hq]
 · exact .inr ha
theorem LL_len {cl:Row→Nat} {T:List Row} {i j:Nat} (h:j≤(T.filter fun x=>cl x == i).length):(LL cl T i j 0 i).length=j:=by
 unfold LL;rw [if_neg (by omega),if_pos rfl,List.length_map,List.length_take];omega
theorem joined_any (AP:Option Addr) (n cp t:Nat) (PS:List St) (T:List Row) (cl:Row→Nat) (S:Nat→Prop) (w:World) (hP:Sl w S AP (PS.map Zda)) (hn:PS.length=n) (hn4:n≤4) (hS:∀ b,S b→b<w.heap.size)
  (hpt:∀ i,i<n→t<(PS.getD i []).length∧(PS.getD i []).getD t []=T.filter fun x=>cl x == i) (hT:T.Pairwise (fun a b=>cmpR a b<0)) (hcl:∀ x ∈ T,cl x<n) (hlen:T.length≤1000) (hpos:∀ r ∈ T,0<r.length∧r.length≤12) :
  Calls Tryz.prog 88 #[.slice AP n cp,.int .i64 (t:Int)] w (fun e w'=>∃ A c,e=.returned (.slice A T.length c)∧T.length≤c∧RowsS w' (New w w') A T∧Below w.heap.size w w'):=by
 have HP:=hI hP;have HN:=hI hn;have HPT:=hI hpt;have HT:=hI hT;have HCL:=hI hcl;have HPOS:=hI hpos;clear hP hn hpt hT hcl hpos;obtain⟨i0,hi,hj0,hj1,hj2⟩:=info_parts infoV;obtain⟨ir,hir,hr0,hr1,hr2⟩:=info_parts infoR;have hmk:=ZbV n (by omega);go_enter Tryz.func88,Tryz.ntmps88;go_upto_region 2 with fail
 clear hmk;obtain⟨w1,hw1⟩:∃ w1,w.alloc (.cells (Zam n).toArray 73)=w1:=⟨_,rfl⟩;obtain⟨gL,hgL⟩:∃ gL,w.heap.size=gL:=⟨_,rfl⟩;have hb1:Below w.heap.size w w1:=(by rw [←hw1];exact(Below.refl _ _).alloc nR _);have hz1:gL+1≤w1.heap.size∧w1.heap.size≤gL+1:=(by rw [←hw1,←hgL];simp);have HG0:=hI (Grid.start (w:=w1) (B0:=w1.heap.size) (n:=1) (T:=n) (G:=fun _=>gL) (TT:=73) (e:=42) (size:=1) (S0:=fun _=>False) (fun i _=>by rw [←hw1,←hgL];exact heap_alloc_new w _) (fun i i' h1 h2 _=>by omega) (fun i _=>by omega) (fun b hb=>hb.elim) nR);have HB1:=hI hb1;have hwg:w.heap.size≤gL∧gL≤w.heap.size:=(by omega);rw [hw1]
 try rw [hgL]
 clear hw1 hgL hb1
 go_wp2_with fail
 go_loopw [15] (fun i wr=>∃ (k:Nat) (V:Nat→Nat→Value),k≤n∧i=.int .i64 k∧Fr (fun b=>b=gL) w1 wr∧Grid wr w1.heap.size 42 73 1 (fun _=>False) 1 n (fun _=>gL) V V (LL cl T k 0)) (fun i _=>n - (intOf i).toNat)
 case atStart=>exact⟨0,_,Nat.zero_le _,rfl,Fr.refl _ _,HG0.out.congr (fun i j _ _=>by unfold LL;split;{ omega };split<;>simp)⟩
 case round =>
  clear HG0;obtain⟨k,V,hk,rfl,hfr,hgr⟩:=hrel;have HFR:=hI hfr;have HGR:=hI hgr;have hsz:=hfr.size;clear hfr hgr
  by_cases hkn:k<n
  · have hdk:decide (k<n)=true:=(by simp [hkn]);have hk0:(0:Int)≤(k:Int):=(by omega);have hki:(k:Int)<(n:Int):=(by omega);have HSM:=hI (show Same S w wr from fun b hb=>(HFR.out.block b (by have:=hS b hb;omega) (by have:=hS b hb;omega)).trans (HB1.out.block b (hS b hb)));obtain⟨bp,op,rfl,hbp,A',c',d0,d1,d2⟩:=Zhm (show Sl wr S AP (PS.map Zda) from Sl.keep HP.out HSM.out) (k:=k) (by rw [HN.out];exact hkn);obtain⟨htl,hte⟩:=HPT.out k hkn;have hbpl:bp<wr.heap.size:=(by have:=hS bp hbp;omega);obtain⟨bt,ot,rfl,hbt,A2,c2,e0,e1,e2⟩:=d2.at_ htl;rw [hte] at e0 e1 e2;have HRI:=hI e2;have hbtl:bt<wr.heap.size:=(by have:=hS bt hbt;omega);have HLI:=hI (show ∀ r ∈ (T.filter fun x=>cl x == k),r ∈ T from fun r hr=>(List.mem_filter.1 hr).1);have hlI:(T.filter fun x=>cl x == k).length≤1000:=(by have:=List.length_filter_le (fun x=>cl x == k) T;omega);obtain⟨pl,hpl⟩:∃ pl,(PS.getD k []).length=pl:=⟨_,rfl⟩;rw [hpl] at d0 htl;have ht0:(0:Int)≤(t:Int):=(by omega);have hti:(t:Int)<(pl:Int):=(by omega);have HLS:=hI (fun j (row:Row) (h:(T.filter fun x=>cl x == k)[j]?=some row) (a q:Nat)=>LL_step (cl:=cl) (T:=T) h a q);have HLN:=hI (fun j (h:(T.filter fun x=>cl x == k).length≤j) (a q:Nat)=>LL_next (cl:=cl) (T:=T) h a q);have HLL:=hI (fun j (h:j≤(T.filter fun x=>cl x == k).length)=>LL_len (cl:=cl) (T:=T) h);clear d1 d2 e1 e2 hpl hte;obtain⟨LI,hLI⟩:∃ LI,(T.filter fun x=>cl x == k)=LI:=⟨_,rfl⟩;rw [hLI] at e0 HRI HLI hlI HLS HLN HLL;clear hLI;go_upto_region 5 with fail
    obtain⟨w2,hw2⟩:∃ w2,wr.alloc (.cells #[.slice (some ⟨bt,ot,none⟩) pl c'] 33)=w2:=⟨_,rfl⟩;have X0:=hI (show w2.heap[wr.heap.size]?=some (.cells #[.slice (some ⟨bt,ot,none⟩) pl c'] 33 (0,0)) by rw [←hw2];exact heap_alloc_new wr _);have hb2:Below wr.heap.size wr w2:=(by rw [←hw2];exact(Below.refl _ _).alloc nR _);have x0:w2.cell? ⟨wr.heap.size,0,none⟩=some (.slice (some ⟨bt,ot,none⟩) pl c'):=Zaa X0.out 0 _ rfl;have e0:=c9Q hb2 hbtl e0;have HG2:=hI (HGR.out.below hb2);have HF2:=hI (HFR.out.trans (Fr.of_below hb2) (Y:=fun _=>False) (fun b hb h=>h.elim));have hxw:=Zac X0.out;have hbtl2:bt<w2.heap.size:=(by omega);rw [hw2];clear hw2 hb2 d0 X0 HGR HFR
    go_wp2_with fail
    go_loopw [26] (fun i wr=>∃ (j:Nat) (V:Nat→Nat→Value),j≤LI.length∧i=.int .i64 j∧Fr (fun b=>b=gL) w1 wr∧Grid wr w1.heap.size 42 73 1 (fun _=>False) 1 n (fun _=>gL) V V (LL cl T k j)) (fun i _=>LI.length - (intOf i).toNat)
    case atStart=>exact⟨0,V,Nat.zero_le _,rfl,HF2.out,HG2.out⟩
    case round =>
     clear HF2 HG2 x0 e0;obtain⟨j,V,hj,rfl,hfr,hgr⟩:=hrel;have HFR:=hI hfr;have HGR:=hI hgr;have hsz2:=hfr.size;clear hfr hgr;have HSM2:=hI (show Same S w wr from fun b hb=>(HFR.out.block b (by have:=hS b hb;omega) (by have:=hS b hb;omega)).trans (HB1.out.block b (hS b hb)))
     by_cases hjl:j<LI.length
     · have hdj:decide (j<LI.length)=true:=(by simp [hjl]);have hj0':(0:Int)≤(j:Int):=(by omega);have hji:(j:Int)<(LI.length:Int):=(by omega);obtain⟨b5,o5,rfl,hb5,A5,c5,f1,f2,f3⟩:=RowsS.at_ (show RowsS wr S A2 LI from Sl.keep HRI.out (fun b hb=>(HSM2.out b hb).trans (HSM.out b hb).symm)) hjl;have HST:=hI (HLS.out j (LI.getD j []) (by simp [List.getD,hjl]));have hrp:=HPOS.out (LI.getD j []) (HLI.out _ (by rw [show LI.getD j []=LI[j] by simp [List.getD,hjl]];exact List.getElem_mem hjl));obtain⟨row,hrow⟩:∃ row,LI.getD j []=row:=⟨_,rfl⟩;rw [hrow] at f1 f2 f3 HST hrp;clear hrow;have HLJ:=hI (HLL.out j hj);have hlb5:b5<wr.heap.size:=(by have:=hS b5 hb5;omega);obtain⟨rl,hrl⟩:∃ rl,row.length=rl:=⟨_,rfl⟩;have HRL:=hI hrl;obtain⟨b6,o6,rfl,hb6,hc6⟩:=f3.vals (by omega);have HC6:=hI hc6;have HOKR:=hI f3.ok;have hlb6:b6<wr.heap.size:=(by have:=hS b6 hb6;omega);rw [hrl] at f1 f2 hrp;obtain⟨hrp0,hrp1⟩:=hrp;clear f3 hc6 hrl
       go_wp2_with fail
       obtain⟨AV,cV,hAV⟩:=HGR.out.form (i:=0) (j:=k) (by omega) hkn;obtain⟨g2,g3⟩:=HGR.out.cell (i:=0) (j:=k) (by omega) hkn;rw [hAV] at g2;rw [HLJ.out] at g2 hAV;have HAV:=hI hAV;have HOW:=hI (show ∀ b,(V 0 k).ownBlock=some b→w1.heap.size≤b∧b<wr.heap.size from fun b e=>(HGR.out.own 0 k (by omega) hkn).lt e);have hgl:gL<wr.heap.size:=(by omega);clear hAV f1;refine tS (fun w'=>w'.frozen? ⟨gL,k,none⟩=false∧w'.cell? ⟨gL,k,none⟩=some (.slice AV j cV)) 11 12 fun Q' HQ HP=>?_;obtain⟨wd,hwd⟩:∃ wd,wr.drew=wd:=⟨_,rfl⟩;have HBD:=hI (show Below wr.heap.size wr wd by rw [←hwd];exact(Below.refl _ wr).drew);have hwz:wd.heap.size≤wr.heap.size∧wr.heap.size≤wd.heap.size:=(by rw [←hwd];exact⟨Nat.le_refl _,Nat.le_refl _⟩);have HGX:=hI (HGR.out.below HBD.out);have g2:=c9Q HBD.out hgl g2;have g3:=(HBD.out.frozen (p:=⟨gL,k,none⟩) hgl).trans g3
       have HC6:=hI (show ∀ q u,(Zak row)[q]?=some u→wd.cell? ((⟨b6,o6,none⟩:Addr).add q)=some u from fun q u hu=>by
        have h9:=HC6.out q u hu;rw [ZcW] at h9 ⊢;exact c9Q HBD.out hlb6 h9)
       have hgl:gL<wd.heap.size:=(by omega);rw [hwd];clear hwd;refine tX 0 30 1 31 2 32 3 33 (bA 12 15) HP.out ⟨g3,g2⟩ ?_;refine tW 4 34 5 35 (bA 12 63) HP.out ⟨g3,g2⟩ ?_;refine tJ 6 36 (bA 12 127) HP.out ⟨g3,g2⟩ ?_;refine anyT_one (i:=7) (o:=⟨some 37,_,_,_,_,_⟩) (L':=(bA 12 255)) rfl (by kernel_rfl) (by kernel_rfl) (fun K hK=>?_);refine step_append_lies _ (by rfl) (.const (.slice none 0 0)) (.tmp 36) 42 (by rfl) wd.heap.size 89 i0 _ 3 32 Tryz.underlying42 hi hj0 hj1 hj2 rfl (by decide) (.slice none 0 0) 0 [] (by rfl) (World.ownsRow_nil _ _ _ _) ⟨b6,o6,none⟩ rl c5 (Zak row) (by rfl) (by rw [Zaz,HRL.out]) HC6.out (Zbv row) hrp0 (by unfold maxLen;omega) (by omega) nR wd.heap.size rfl ?_;intro gx cx w4 hown hgr hat hlt;rw [List.nil_append,Nat.zero_add] at hown;have HO4:=hI hown;have hb4:Below wd.heap.size wd w4:=⟨hgr.os,hgr.tape,hgr.output,hgr.size,fun b hb=>hgr.block b hb (by simp [Value.ownBlock])⟩;have HB4:=hI (show Below wr.heap.size wr w4 from HBD.out.trans (hb4.mono (by omega)));have HG4:=hI (HGX.out.below hb4);have k2:=c9Q hb4 hgl g2;have k3:=(hb4.frozen (p:=⟨gL,k,none⟩) hgl).trans g3;have hz4:=hb4.size;have hgl4:gL<w4.heap.size:=(by omega);have hcx:=ZdJ hown rfl;clear hown hgr hat hlt hb4;refine hK _ _ (fun _=>⟨k3,k2⟩) ?_;clear hK K;rw [Nat.zero_add]
       try simp only [Act.put,psA,psB,psC]
       refine tQ 8 (some 38) (bA 12 511) fun K HK=>?_;go_simp;have l3:(w4.alloc (.cells #[.slice (some ⟨gx,0,none⟩) rl cx] 42)).frozen? ⟨gL,k,none⟩=_:=(Zby hgl4).trans k3;have l2:(w4.alloc (.cells #[.slice (some ⟨gx,0,none⟩) rl cx] 42)).cell? ⟨gL,k,none⟩=_:=(Zah hgl4).trans k2;refine HK.out _ _ (fun _=>⟨l3,l2⟩) ?_;clear HK K
       try simp only [Act.put,psA,psB,psC]
       refine anyT_one (i:=9) (o:=⟨some 39,_,_,_,_,_⟩) (L':=(bA 12 1023)) rfl (by kernel_rfl) (by kernel_rfl) (fun K hK=>?_)
       refine ZbS (by rfl) (.tmp 35) (.tmp 38) 73 (by rfl) ir _ 24 Tryz.underlying73 hir hr0 hr1 hr2 rfl (by decide) w4 HG4.out (i:=0) (j:=k) (by omega) hkn (by rw [HAV.out];rfl) (Zax row) #[.slice (some ⟨gx,0,none⟩) rl cx] (by
        have h9:=ZaI HOKR.out (show w4.ownsRow wd.heap.size 89 3 (.slice (some ⟨gx,0,none⟩) row.length cx) row.length (Zak row) by rw [HRL.out];exact HO4.out)
        have h8:=Zbt (c:=cx) (by rw [HRL.out];exact hcx) (h9.more (S':=Oth (fun _=>False) w4 w1.heap.size 1 n V) (fun b hb=>Or.inr ⟨by have:=hb.1;omega,hb.2,fun i' j' hi' hj' e=>by
         have h7:=((HGR.out.own i' j' hi' hj').lt e.symm).2;have:=hb.1;omega⟩))
        rw [HRL.out] at h8;exact h8) (by simp [Zax,Dat.Plain]) rfl 1 (by rfl) (by rw [HLJ.out];omega) (by rw [HLJ.out];omega) ?_
       rw [HLJ.out];intro g7 c7 w7 hg7 hr7;have HG7:=hI hg7;have HR7:=hI hr7;have n2:=(hg7.cell (i:=0) (j:=k) (by omega) hkn).1;rw [HAV.out] at n2;have n3:=(hg7.cell (i:=0) (j:=k) (by omega) hkn).2;clear hg7 hr7;refine hK _ _ (fun _=>⟨n3,n2⟩) ?_;clear hK K
       try simp only [Act.put,psA,psB,psC]
       refine tJ 10 40 (bA 12 2047) HP.out ⟨n3,n2⟩ ?_;refine tQ 11 none (bA 12 4095) fun K HK=>?_;go_simp;refine HK.out _ _ (fun h=>absurd rfl h) ?_;clear HK K;refine tE HQ ?_;clear HQ HP Q';have HGN:=hI (HG7.out.store (i:=0) (j:=k) (by omega) hkn (.slice (some ⟨g7,0,none⟩) (j+1) c7));have HFN:=hI (show Fr (fun b=>b=gL) w1 (w7.setCell ⟨gL,k,none⟩ (.slice (some ⟨g7,0,none⟩) (j+1) c7)) from ((HFR.out.trans (Fr.of_below HB4.out) (Y:=fun _=>False) (fun b hb h=>h.elim)).trans (Y:=fun b=>w1.heap.size≤b) (Fr.of_grown HR7.out (fun b hb e=>(HOW.out b e.symm).1)) (fun b hb h=>absurd hb (by omega))).setCell _ (fun _=>rfl));clear HG7 HR7 HAV g2 g3 HB4
       go_wp2_with fail
       go_roundw
       case rel=>exact⟨j+1,upd V 0 k (.slice (some ⟨g7,0,none⟩) (j+1) c7),by omega,by go_num,HFN.out,HGN.out.congr (fun a q ha hq=>(HST.out a q).resolve_right (by omega))⟩
       case measure=>(simp [intOf];omega)
     · have hdj:decide (j<LI.length)=false:=(by simp;omega);have HGN:=hI (HGR.out.congr (fun a q _ _=>HLN.out j (by omega) a q))
       go_wp2_with fail
       go_roundw
       case rel=>first | exact⟨k+1,V,by omega,by go_num,HFR.out,HGN.out⟩ | ((repeat apply Exists.intro);exact⟨⟨k+1,V,by omega,by go_num,HFR.out,HGN.out⟩,rfl⟩)
       case measure=>(simp [intOf];omega)
  · have hdk:decide (k<n)=false:=(by simp;omega);obtain rfl:k=n:=(by omega)
    have HLT:=hI (show Sl wr (New w wr) (some ⟨gL,0,none⟩) ((ZaH k cl T).map Zaw) by
     obtain⟨vs,hv1,hv2⟩:=HGR.out.row (i:=0) (by omega) (fun j hj=>by
      unfold LL;rw [if_pos hj,Zae (n:=24) (fun _=>rfl)];have h9:=List.length_filter_le (fun x=>cl x == j) T;omega) (S':=New w wr) (fun b hb=>by
      rcases hb with hb | hb
      · exact hb.elim
      · exact⟨by omega,hb.2⟩)
     have hle:(List.range k).map (fun j=>Dat.slice (LL cl T k 0 0 j))=(ZaH k cl T).map Zaw:=by
      unfold ZaH;rw [List.map_map];refine List.map_congr_left (fun j hj=>?_);unfold LL;rw [if_pos (List.mem_range.1 hj)];rfl
     rw [hle] at hv2;refine Sl.of_vals (by rw [Zae (n:=24) (fun _=>rfl),ZaC];omega) hv2 (fun _=>⟨gL,0,rfl,⟨by omega,by omega⟩,fun j u hu=>Zaa hv1 j u hu⟩))
    have HBW:=hI (show Below w.heap.size w wr from HB1.out.trans (HFR.out.below (n:=w.heap.size) (by omega) (fun b hb=>by omega)))
    go_wp2_with fail
    refine(mergeR_any (some ⟨gL,0,none⟩) k k T cl (New w wr) wr HLT.out (fun b hb=>hb.2) hn4 HT.out HCL.out hlen).mono ?_;rintro e w9 ⟨A9,c9,rfl,hc9,h9,hb9⟩;have HC9:=hI hc9;have H9:=hI h9;have HW9:=hI (show wr.heap.size≤w9.heap.size from hb9.size);have HB9:=hI (HBW.out.trans (hb9.mono (by have:=HBW.out.size;omega)));clear hc9 h9 hb9
    go_wp2_with fail
    go_ret;exact⟨A9,c9,rfl,HC9.out,Sl.more H9.out (fun b hb=>by have h7:=HW9.out;rcases hb with hb | hb;{ exact⟨hb.1,by have:=hb.2;omega⟩ };exact⟨by have:=hb.1;omega,hb.2⟩),HB9.out⟩
end Go.Proofs.YtkpjjfhfbpfjpaaGreat
